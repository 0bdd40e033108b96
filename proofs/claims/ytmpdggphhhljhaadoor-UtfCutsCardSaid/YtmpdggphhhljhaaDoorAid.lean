/- Plain lemmas on bytes, whole numbers and UTF-8's scalars, used by the pure laws of this seat. No conditions. -/
import Derived.Test.YtmpdggphhhljhaaDoorWWords
import Derived.Lib.DecodeN
import Derived.Lib.Strings
import Derived.Shelf.Unicode.DecodeSlow
namespace Go.Proofs.YtmpdggphhhljhaaDoor.Aid
open Go.RowKit Go.Proofs.YtmpdggphhhljhaaDoorW.PrintWords

theorem wrap_id {x : Int} (h0 : -9223372036854775808 ≤ x) (h1 : x ≤ 9223372036854775807) : wrap64 x = x := by
  unfold wrap64; omega

/-- byte i of a list, as a number (0 beyond the end) -/
def ba (l : List UInt8) (i : Nat) : Int := ((l.getD i 0).toNat : Int)
theorem ba_range (l : List UInt8) (i : Nat) : 0 ≤ ba l i ∧ ba l i ≤ 255 := by
  unfold ba
  have := (l.getD i 0).toNat_lt
  omega
theorem bt_ba (s : ByteArray) (i : Int) : bt s i = ba s.data.toList i.toNat := by
  unfold bt ba
  split
  · rename_i h
    have h' : i.toNat < s.data.toList.length := by rw [← Lib.size_eq]; exact h
    rw [List.getD_eq_getElem?_getD, List.getElem?_eq_getElem h']
    rfl
  · rename_i h
    have h' : s.data.toList.length ≤ i.toNat := by rw [← Lib.size_eq]; omega
    rw [List.getD_eq_getElem?_getD, List.getElem?_eq_none h']
    rfl
theorem bt_nat (s : ByteArray) (i : Nat) : bt s (i : Int) = ba s.data.toList i := by rw [bt_ba]; rfl
theorem ba_drop (l : List UInt8) (i j : Nat) : ba (l.drop i) j = ba l (i + j) := by
  unfold ba
  rw [List.getD_eq_getElem?_getD, List.getD_eq_getElem?_getD, List.getElem?_drop]
theorem ba_append_left {l : List UInt8} {i : Nat} (m : List UInt8) (h : i < l.length) : ba (l ++ m) i = ba l i := by
  unfold ba
  rw [List.getD_eq_getElem?_getD, List.getD_eq_getElem?_getD, List.getElem?_append_left h]
theorem ba_append_right {l : List UInt8} {i : Nat} (m : List UInt8) (h : l.length ≤ i) : ba (l ++ m) i = ba m (i - l.length) := by
  unfold ba
  rw [List.getD_eq_getElem?_getD, List.getD_eq_getElem?_getD, List.getElem?_append_right h]
theorem ba_take {l : List UInt8} {i n : Nat} (h : i < n) : ba (l.take n) i = ba l i := by
  unfold ba
  rw [List.getD_eq_getElem?_getD, List.getD_eq_getElem?_getD, List.getElem?_take, if_pos h]
theorem ba_beyond {l : List UInt8} {i : Nat} (h : l.length ≤ i) : ba l i = 0 := by
  unfold ba
  rw [List.getD_eq_getElem?_getD, List.getElem?_eq_none h]
  rfl
theorem drop_cons {l : List UInt8} {i : Nat} (h : i < l.length) : ∃ x : UInt8, (x.toNat : Int) = ba l i ∧ l.drop i = x :: l.drop (i + 1) := by
  refine ⟨l[i], ?_, List.drop_eq_getElem_cons h⟩
  unfold ba
  rw [List.getD_eq_getElem?_getD, List.getElem?_eq_getElem h]
  rfl
theorem extract_end (s : ByteArray) (a : Nat) : (s.extract a s.size).data.toList = s.data.toList.drop a := by
  rw [Lib.extract_data, List.take_of_length_le]
  rw [List.length_drop, ← Lib.size_eq]
  omega
theorem append_list (s t : ByteArray) : (s ++ t).data.toList = s.data.toList ++ t.data.toList := by
  rw [ByteArray.data_append, Array.toList_append]
theorem ext_list {s t : ByteArray} (h : s.data.toList = t.data.toList) : s = t := ByteArray.ext (Array.toList_inj.1 h)

/-! ### UTF-8: the scalar at a list's beginning, and its width; (0, 0): none begins -/
def nx (l : List UInt8) : Nat × Nat :=
  if l = [] then (0, 0) else
  if Lib.decodeN l.length (l.getD 0 0).toNat (l.getD 1 0).toNat (l.getD 2 0).toNat (l.getD 3 0).toNat = (65533, 1) then (0, 0)
  else Lib.decodeN l.length (l.getD 0 0).toNat (l.getD 1 0).toNat (l.getD 2 0).toNat (l.getD 3 0).toNat

theorem decodeN_width (n b0 b1 b2 b3 : Nat) (hn : 0 < n) : 1 ≤ (Lib.decodeN n b0 b1 b2 b3).2 ∧ (Lib.decodeN n b0 b1 b2 b3).2 ≤ n ∧ (Lib.decodeN n b0 b1 b2 b3).2 ≤ 4 := by
  unfold Lib.decodeN
  repeat' split
  all_goals (simp only; omega)
theorem nx_width (l : List UInt8) : (nx l).2 ≤ l.length ∧ (nx l).2 ≤ 4 := by
  unfold nx
  split
  · simp
  · rename_i h
    have hl : 0 < l.length := List.length_pos_iff.2 h
    split
    · simp
    · have := decodeN_width l.length (l.getD 0 0).toNat (l.getD 1 0).toNat (l.getD 2 0).toNat (l.getD 3 0).toNat hl
      exact ⟨this.2.1, this.2.2⟩
theorem nx_zero {l : List UInt8} (h : (nx l).2 = 0) : nx l = (0, 0) := by
  unfold nx at h ⊢
  split
  · rfl
  · rename_i hl
    rw [if_neg hl] at h
    split
    · rfl
    · rename_i hd
      rw [if_neg hd] at h
      have := decodeN_width l.length (l.getD 0 0).toNat (l.getD 1 0).toNat (l.getD 2 0).toNat (l.getD 3 0).toNat (List.length_pos_iff.2 hl)
      omega
/-- what the model's decoder tells, by nx -/
theorem decodeGo_nx (s : ByteArray) : Lib.decodeGo s = if s.data.toList = [] then (65533, 0) else if (nx s.data.toList).2 = 0 then (65533, 1) else nx s.data.toList := by
  unfold Lib.decodeGo
  by_cases h : s.data.toList = []
  · rw [if_pos h, if_pos (by rw [Lib.size_eq, h]; rfl)]
  · have hs : s.size ≠ 0 := by rw [Lib.size_eq]; exact fun e => h (List.length_eq_zero_iff.1 e)
    rw [if_neg h, if_neg hs, Lib.decode_at]
    have g : ∀ i, s.get! i = s.data.toList.getD i 0 := fun i => by
      show s.data[i]! = _
      rw [List.getD_eq_getElem?_getD, Array.getElem?_toList, getElem!_def]
      cases s.data[i]? <;> rfl
    simp only [g, Nat.zero_add, Nat.sub_zero, Lib.size_eq]
    by_cases hd : Lib.decodeN s.data.toList.length (s.data.toList.getD 0 0).toNat (s.data.toList.getD 1 0).toNat (s.data.toList.getD 2 0).toNat (s.data.toList.getD 3 0).toNat = (65533, 1)
    · have hz : (nx s.data.toList).2 = 0 := by unfold nx; rw [if_neg h, if_pos hd]
      rw [if_pos hz, hd]
    · have hn : nx s.data.toList = Lib.decodeN s.data.toList.length (s.data.toList.getD 0 0).toNat (s.data.toList.getD 1 0).toNat (s.data.toList.getD 2 0).toNat (s.data.toList.getD 3 0).toNat := by unfold nx; rw [if_neg h, if_neg hd]
      have hw := decodeN_width s.data.toList.length (s.data.toList.getD 0 0).toNat (s.data.toList.getD 1 0).toNat (s.data.toList.getD 2 0).toNat (s.data.toList.getD 3 0).toNat (List.length_pos_iff.2 h)
      rw [if_neg (by rw [hn]; omega), hn]
/-- a scalar that begins is the same one whatever stands behind it -/
theorem decodeN_more {n m b0 b1 b2 b3 c1 c2 c3 : Nat} (hm : n ≤ m) (h1 : 1 < n → c1 = b1) (h2 : 2 < n → c2 = b2) (h3 : 3 < n → c3 = b3)
    (h : Lib.decodeN n b0 b1 b2 b3 ≠ (65533, 1)) : Lib.decodeN m b0 c1 c2 c3 = Lib.decodeN n b0 b1 b2 b3 := by
  unfold Lib.decodeN at h ⊢
  by_cases q1 : b0 < 128
  · rw [if_pos q1, if_pos q1]
  · rw [if_neg q1] at h ⊢
    rw [if_neg q1]
    by_cases q2 : b0 / 32 = 6 ∧ (1 < n ∧ b1 / 64 = 2)
    · have e1 := h1 q2.2.1; subst e1
      rw [if_pos q2, if_pos ⟨q2.1, by omega, q2.2.2⟩]
    · rw [if_neg q2] at h ⊢
      by_cases q3 : b0 / 16 = 14 ∧ (1 < n ∧ b1 / 64 = 2) ∧ (2 < n ∧ b2 / 64 = 2)
      · have e1 := h1 q3.2.1.1; have e2 := h2 q3.2.2.1; subst e1; subst e2
        rw [if_pos q3, if_neg (by omega), if_pos ⟨q3.1, ⟨by omega, q3.2.1.2⟩, by omega, q3.2.2.2⟩]
      · rw [if_neg q3] at h ⊢
        by_cases q4 : b0 / 8 = 30 ∧ (1 < n ∧ b1 / 64 = 2) ∧ (2 < n ∧ b2 / 64 = 2) ∧ (3 < n ∧ b3 / 64 = 2)
        · have e1 := h1 q4.2.1.1; have e2 := h2 q4.2.2.1.1; have e3 := h3 q4.2.2.2.1; subst e1; subst e2; subst e3
          rw [if_pos q4, if_neg (by omega), if_neg (by omega), if_pos ⟨q4.1, ⟨by omega, q4.2.1.2⟩, ⟨by omega, q4.2.2.1.2⟩, by omega, q4.2.2.2.2⟩]
        · rw [if_neg q4] at h
          exact absurd rfl h
theorem nx_append {l : List UInt8} (m : List UInt8) (h : (nx l).2 ≠ 0) : nx (l ++ m) = nx l := by
  have hl : l ≠ [] := fun e => h (by rw [e]; rfl)
  have hp : 0 < l.length := List.length_pos_iff.2 hl
  have hd : Lib.decodeN l.length (l.getD 0 0).toNat (l.getD 1 0).toNat (l.getD 2 0).toNat (l.getD 3 0).toNat ≠ (65533, 1) := fun e => h (by unfold nx; rw [if_neg hl, if_pos e])
  have g : ∀ i, i < l.length → (l ++ m).getD i 0 = l.getD i 0 := fun i hi => by
    rw [List.getD_eq_getElem?_getD, List.getD_eq_getElem?_getD, List.getElem?_append_left hi]
  have e := decodeN_more (m := (l ++ m).length) (c1 := ((l ++ m).getD 1 0).toNat) (c2 := ((l ++ m).getD 2 0).toNat) (c3 := ((l ++ m).getD 3 0).toNat) (by rw [List.length_append]; omega) (fun k => by rw [g _ k]) (fun k => by rw [g _ k]) (fun k => by rw [g _ k]) hd
  unfold nx
  rw [if_neg hl, if_neg hd, if_neg (by simp [hl]), g 0 hp, e, if_neg hd]

/-- a scalar of UTF-8, as the byte numbers say it -/
def isScalar (c : Int) : Bool := decide (0 ≤ c ∧ c ≤ 1114111 ∧ (c < 55296 ∨ 57343 < c))
def mayS (c : Nat) : Bool := decide (c = 9 ∨ c = 10 ∨ c = 13 ∨ c = 133 ∨ (32 ≤ c ∧ c ≤ 126) ∨ (160 ≤ c ∧ c ≤ 65533 ∧ c ≠ 65279) ∨ 65536 ≤ c)
/-- how many bytes the scalar has that begins here and may be -/
def mayW (l : List UInt8) : Nat := if mayS (nx l).1 = true then (nx l).2 else 0
theorem mayW_le (l : List UInt8) : mayW l ≤ l.length ∧ mayW l ≤ 4 := by
  have := nx_width l
  unfold mayW; split <;> omega
theorem mayW_append {l : List UInt8} (m : List UInt8) (h : (nx l).2 ≠ 0) : mayW (l ++ m) = mayW l := by
  unfold mayW; rw [nx_append m h]
theorem mayW_pos {l : List UInt8} (h : mayW l ≠ 0) : (nx l).2 ≠ 0 ∧ mayW l = (nx l).2 := by
  unfold mayW at h ⊢
  split at h
  · rename_i hm; rw [if_pos hm]; exact ⟨h, rfl⟩
  · exact absurd rfl h

/-- the first byte at which no scalar begins that may be; -1: none -/
def chkF : Nat → List UInt8 → Int → Int
  | 0, _, _ => -1
  | n + 1, l, off => if l = [] then -1 else if mayW l = 0 then off else chkF n (l.drop (mayW l)) (off + mayW l)
def chk (l : List UInt8) : Int := chkF l.length l 0
theorem chkF_enough : ∀ (n m : Nat) (l : List UInt8) (off : Int), l.length ≤ n → l.length ≤ m → chkF n l off = chkF m l off
  | 0, 0, _, _, _, _ => rfl
  | 0, m + 1, l, off, h, _ => by
    have : l = [] := List.length_eq_zero_iff.1 (by omega)
    subst this; simp [chkF]
  | n + 1, 0, l, off, _, h => by
    have : l = [] := List.length_eq_zero_iff.1 (by omega)
    subst this; simp [chkF]
  | n + 1, m + 1, l, off, h, h' => by
    simp only [chkF]
    split
    · rfl
    · split
      · rfl
      · rename_i hl hw
        have := List.length_pos_iff.2 hl
        exact chkF_enough n m _ _ (by rw [List.length_drop]; omega) (by rw [List.length_drop]; omega)
/-- is it well-formed? -/
def wellF : Nat → List UInt8 → Bool
  | 0, _ => true
  | n + 1, l => if l = [] then true else if (nx l).2 = 0 then false else wellF n (l.drop (nx l).2)
def well (l : List UInt8) : Bool := wellF l.length l
theorem wellF_enough : ∀ (n m : Nat) (l : List UInt8), l.length ≤ n → l.length ≤ m → wellF n l = wellF m l
  | 0, 0, _, _, _ => rfl
  | 0, m + 1, l, h, _ => by
    have : l = [] := List.length_eq_zero_iff.1 (by omega)
    subst this; simp [wellF]
  | n + 1, 0, l, _, h => by
    have : l = [] := List.length_eq_zero_iff.1 (by omega)
    subst this; simp [wellF]
  | n + 1, m + 1, l, h, h' => by
    simp only [wellF]
    split
    · rfl
    · split
      · rfl
      · rename_i hl hw
        have := List.length_pos_iff.2 hl
        exact wellF_enough n m _ (by rw [List.length_drop]; omega) (by rw [List.length_drop]; omega)
theorem chkF_range : ∀ (n : Nat) (l : List UInt8) (off : Int), l.length ≤ n → 0 ≤ off → chkF n l off = -1 ∨ (off ≤ chkF n l off ∧ chkF n l off < off + l.length)
  | 0, _, _, _, _ => .inl rfl
  | n + 1, l, off, h, h0 => by
    simp only [chkF]
    split
    · exact .inl rfl
    · rename_i hl
      have hp := List.length_pos_iff.2 hl
      split
      · exact .inr (by omega)
      · have hw := mayW_le l
        rcases chkF_range n (l.drop (mayW l)) (off + mayW l) (by rw [List.length_drop]; omega) (by omega) with h1 | h1
        · exact .inl h1
        · rw [List.length_drop] at h1
          exact .inr (by omega)
/-- two texts, one behind the other: the first one's first wrong sign, if it is well-formed or has none; else the second one's -/
theorem chkF_append : ∀ (n : Nat) (l m : List UInt8) (off : Int), l.length ≤ n → 0 ≤ off →
    (chkF n l off = -1 → chkF (n + m.length) (l ++ m) off = chkF m.length m (off + l.length)) ∧
    (chkF n l off ≠ -1 → wellF n l = true → chkF (n + m.length) (l ++ m) off = chkF n l off)
  | 0, l, m, off, h, h0 => by
    have : l = [] := List.length_eq_zero_iff.1 (by omega)
    subst this
    simp [chkF]
  | n + 1, l, m, off, h, h0 => by
    by_cases hl : l = []
    · subst hl
      refine ⟨fun _ => ?_, fun hc => absurd (by simp [chkF]) hc⟩
      simp only [List.nil_append, List.length_nil]
      rw [show off + ((0 : Nat) : Int) = off by omega]
      exact chkF_enough _ _ _ _ (by omega) (by omega)
    · have hp := List.length_pos_iff.2 hl
      have hne : l ++ m ≠ [] := by simp [hl]
      rw [show n + 1 + m.length = (n + m.length) + 1 by omega]
      simp only [chkF, wellF, if_neg hl, if_neg hne]
      by_cases hw : mayW l = 0
      · refine ⟨fun hc => ?_, fun _ hwl => ?_⟩
        · rw [if_pos hw] at hc; omega
        · by_cases hx : (nx l).2 = 0
          · rw [if_pos hx] at hwl; cases hwl
          · rw [mayW_append m hx, if_pos hw, if_pos hw]
      · obtain ⟨hx, he⟩ := mayW_pos hw
        have hle := mayW_le l
        rw [mayW_append m hx, if_neg hw, if_neg hx]
        rw [if_neg hw]
        have hd : (l ++ m).drop (mayW l) = l.drop (mayW l) ++ m := List.drop_append_of_le_length hle.1
        rw [hd, ← he]
        have ih := chkF_append n (l.drop (mayW l)) m (off + mayW l) (by rw [List.length_drop]; omega) (by omega)
        refine ⟨fun hc => (ih.1 hc).trans ?_, ih.2⟩
        rw [List.length_drop]
        congr 1
        omega
theorem chk_append_none {l : List UInt8} (m : List UInt8) (h : chk l = -1) : chk (l ++ m) = chkF m.length m l.length := by
  have := (chkF_append l.length l m 0 (Nat.le_refl _) (by omega)).1 h
  unfold chk
  rw [List.length_append, this]
  congr 1
  omega
theorem chk_append_some {l : List UInt8} (m : List UInt8) (h : chk l ≠ -1) (hw : well l = true) : chk (l ++ m) = chk l := by
  have := (chkF_append l.length l m 0 (Nat.le_refl _) (by omega)).2 h hw
  unfold chk at *
  rw [List.length_append, this]
theorem chkF_shift : ∀ (n : Nat) (l : List UInt8) (off d : Int), chkF n l off ≠ -1 ∨ chkF n l (off + d) = -1 → 0 ≤ off → 0 ≤ off + d →
    chkF n l (off + d) = if chkF n l off = -1 then -1 else chkF n l off + d
  | 0, l, off, d, _, _, _ => by simp [chkF]
  | n + 1, l, off, d, h, h0, h1 => by
    by_cases hl : l = []
    · simp [chkF, hl]
    · have e : ∀ x : Int, chkF (n + 1) l x = if mayW l = 0 then x else chkF n (l.drop (mayW l)) (x + mayW l) := fun x => by simp only [chkF]; rw [if_neg hl]
      simp only [e] at h ⊢
      by_cases hw : mayW l = 0
      · simp only [if_pos hw]
        rw [if_neg (by omega)]
      · simp only [if_neg hw] at h ⊢
        have ih := chkF_shift n (l.drop (mayW l)) (off + mayW l) d (by rw [show off + mayW l + d = off + d + mayW l by omega]; exact h) (by omega) (by omega)
        rw [show off + mayW l + d = off + d + mayW l by omega] at ih
        exact ih
theorem chkF_none : ∀ (n : Nat) (l : List UInt8) (off d : Int), 0 ≤ off → 0 ≤ d → (chkF n l off = -1 ↔ chkF n l d = -1)
  | 0, l, off, d, _, _ => by simp [chkF]
  | n + 1, l, off, d, h0, h1 => by
    simp only [chkF]
    by_cases hl : l = []
    · simp [hl]
    · rw [if_neg hl, if_neg hl]
      by_cases hw : mayW l = 0
      · rw [if_pos hw, if_pos hw]; omega
      · rw [if_neg hw, if_neg hw]
        exact chkF_none n _ _ _ (by omega) (by omega)
theorem chkF_at (l : List UInt8) (off : Int) (h : 0 ≤ off) : chkF l.length l off = if chk l = -1 then -1 else chk l + off := by
  have := chkF_shift l.length l 0 off (by
    by_cases hc : chkF l.length l 0 = -1
    · right
      exact (chkF_none _ _ _ _ (by omega) (by omega)).1 hc
    · exact .inl hc) (by omega) (by omega)
  rw [show (0 : Int) + off = off by omega] at this
  exact this
end Go.Proofs.YtmpdggphhhljhaaDoor.Aid
