/- Texts as bytes: what layer 1 and its reference tell. No conditions but sizes. -/
import Derived.Test.YtmpdggphhhljhaaDoorUtfSpec7
import Derived.Shelf.Unicode.DecodeLast
import Derived.Lib.ValidLaws
import Derived.Lib.RuneCount
import Derived.Test.YtmpdggphhhljhaaDoorPCx5
namespace Go.Proofs.YtmpdggphhhljhaaDoor.UtfSpec
set_option linter.unusedSimpArgs false
set_option linter.unusedVariables false
open Go.RowKit Go.Proofs.YtmpdggphhhljhaaDoor.PC Go.Proofs.YtmpdggphhhljhaaDoorW.PrintWords Go.Proofs.YtmpdggphhhljhaaDoor.Aid Go.Proofs.YtmpdggphhhljhaaDoor.BrkFns
theorem and_1023 (x : Int) (h0 : 0 ≤ x) (h1 : x < 4294967296) : Go.bits .and .i32 x 1023 = x % 1024 := by
  obtain ⟨m, rfl⟩ := Int.eq_ofNat_of_zero_le h0
  unfold Go.bits
  have e1 : (BitVec.ofInt IntKind.i32.bits (m : Int)).toNat = m := by
    rw [BitVec.toNat_ofInt]
    show ((m : Int) % ((2 ^ 32 : Nat) : Int)).toNat = _
    omega
  have e2 : (BitVec.ofInt IntKind.i32.bits 1023).toNat = 1023 := rfl
  show IntKind.i32.wrap ((BitVec.ofInt IntKind.i32.bits (m : Int) &&& BitVec.ofInt IntKind.i32.bits 1023).toNat : Int) = _
  rw [BitVec.toNat_and, e1, e2, show (1023 : Nat) = 2 ^ 10 - 1 from rfl, Nat.and_two_pow_sub_one_eq_mod]
  obtain ⟨z, hz⟩ : ∃ z, m % 2 ^ 10 = z := ⟨_, rfl⟩
  have hz2 : z < 1024 := by omega
  rw [hz]
  have : IntKind.i32.wrap (z : Int) = (z : Int) := by
    rw [IntKind.wrap_i32]; omega
  rw [this]; omega
/-- a scalar in an encoding -/
def encU (e c : Int) : List Int := if e = 1 then Lib.encodeRuneZ c else if e = 2 ∨ e = 3 then (if 65536 ≤ c then b2 (lit e) (55296 + (c - 65536) / 1024) ++ b2 (lit e) (56320 + (c - 65536) % 1024) else b2 (lit e) c) else b4 (lit e) c
def encL (e : Int) : Nat → List UInt8 → List Int
  | 0, _ => []
  | d + 1, l => if l = [] then [] else encU e ((nx l).1 : Int) ++ encL e d (l.drop (nx l).2)
theorem b2_len (t : Bool) (c : Int) : (b2 t c).length = 2 := by unfold b2; split <;> rfl
theorem b4_len (t : Bool) (c : Int) : (b4 t c).length = 4 := by unfold b4; split <;> rfl
theorem encU_len (e c : Int) : (encU e c).length ≤ 4 := by
  unfold encU
  split
  · exact (Lib.encodeRuneZ_length c).2
  · split
    · split
      · rw [List.length_append, b2_len, b2_len]; exact Nat.le_refl 4
      · rw [b2_len]; omega
    · rw [b4_len]; omega
theorem one_eq (k : Nat) (hk : 10 ≤ k) (e : Int) (he : 1 ≤ e ∧ e ≤ 5) (c : Int) (hc : isScalar c = true) (o : List Int) (ho : o.length ≤ 10000000) : utf_Encode.one k (wid e) e c o = some (o ++ encU e c) := by
  have hs := of_decide_eq_true hc
  unfold utf_Encode.one encU
  by_cases h1 : e = 1
  · subst h1
    rw [if_pos rfl, if_pos (show wid 1 = 1 from rfl), AppendRune_eq k (by omega) o c hc (by omega)]
  by_cases h2 : e = 2 ∨ e = 3
  · have hw : wid e = 2 := by rcases h2 with rfl | rfl <;> rfl
    rw [if_neg h1, if_pos h2, hw, if_neg (by omega)]
    by_cases h3 : 65536 ≤ c
    · rw [if_pos ⟨rfl, h3⟩, if_pos h3, put2 k (by omega) o e h2 _ (by omega) (by omega), Option.bind_some, and_1023 _ (by omega) (by omega)]
      have hw32 : wrap32 (56320 + (c - 65536) % 1024) = 56320 + (c - 65536) % 1024 := by unfold wrap32; omega
      rw [hw32, put2 k (by omega) _ e h2 _ (by omega) (by rw [List.length_append, b2_len]; omega), List.append_assoc]
    · rw [if_neg (fun q => h3 q.2), if_neg h3, put2 k (by omega) o e h2 c hs.1 (by omega)]
  · have hw : wid e = 4 := by
      have : e = 4 ∨ e = 5 := by omega
      rcases this with rfl | rfl <;> rfl
    rw [if_neg h1, if_neg h2, hw, if_neg (by omega), if_neg (by omega), put4 k (by omega) o e (by omega) c hs.1 (by omega)]
theorem decode_nx (s : ByteArray) (pos : Nat) (h : pos < s.size) (hz : (nx (s.data.toList.drop pos)).2 ≠ 0) : Utf8.decode s pos = nx (s.data.toList.drop pos) := by
  have hne : s.data.toList.drop pos ≠ [] := by
    intro q
    rw [q] at hz
    exact hz rfl
  have g : ∀ j, (s.data.toList.drop pos).getD j 0 = s.get! (pos + j) := by
    intro j
    rw [← Lib.getD_get! s (pos + j), List.getD_eq_getElem?_getD, List.getD_eq_getElem?_getD, List.getElem?_drop]
  have hl : (s.data.toList.drop pos).length = s.size - pos := by rw [List.length_drop, Lib.size_eq]
  have e : Lib.decodeN (s.data.toList.drop pos).length ((s.data.toList.drop pos).getD 0 0).toNat ((s.data.toList.drop pos).getD 1 0).toNat ((s.data.toList.drop pos).getD 2 0).toNat ((s.data.toList.drop pos).getD 3 0).toNat = Utf8.decode s pos := by
    rw [Lib.decode_at, g 0, g 1, g 2, g 3, hl]; rfl
  unfold nx at hz ⊢
  rw [if_neg hne] at hz ⊢
  rw [e] at hz ⊢
  by_cases hq : Utf8.decode s pos = (65533, 1)
  · rw [if_pos hq] at hz; exact absurd rfl hz
  · rw [if_neg hq]
theorem well_step {l : List UInt8} (h : well l = true) (hne : l ≠ []) : (nx l).2 ≠ 0 ∧ well (l.drop (nx l).2) = true := by
  unfold well at h ⊢
  have hlen : 0 < l.length := List.length_pos_iff.2 hne
  obtain ⟨n, hn⟩ : ∃ n, l.length = n + 1 := ⟨l.length - 1, by omega⟩
  rw [hn] at h
  simp only [wellF, if_neg hne] at h
  by_cases h0 : (nx l).2 = 0
  · rw [if_pos h0] at h; cases h
  · rw [if_neg h0] at h
    refine ⟨h0, ?_⟩
    rw [← h]
    exact wellF_enough _ _ _ (Nat.le_refl _) (by rw [List.length_drop]; omega)
theorem nx_decode (s : ByteArray) (pos : Nat) (h : pos < s.size) : nx (s.data.toList.drop pos) = if Utf8.decode s pos = (65533, 1) then (0, 0) else Utf8.decode s pos := by
  have hne : s.data.toList.drop pos ≠ [] := by
    intro q
    have := congrArg List.length q
    rw [List.length_drop, ← Lib.size_eq] at this
    simp at this; omega
  have g : ∀ j, (s.data.toList.drop pos).getD j 0 = s.get! (pos + j) := by
    intro j
    rw [← Lib.getD_get! s (pos + j), List.getD_eq_getElem?_getD, List.getD_eq_getElem?_getD, List.getElem?_drop]
  have hl : (s.data.toList.drop pos).length = s.size - pos := by rw [List.length_drop, Lib.size_eq]
  have e : Lib.decodeN (s.data.toList.drop pos).length ((s.data.toList.drop pos).getD 0 0).toNat ((s.data.toList.drop pos).getD 1 0).toNat ((s.data.toList.drop pos).getD 2 0).toNat ((s.data.toList.drop pos).getD 3 0).toNat = Utf8.decode s pos := by
    rw [Lib.decode_at, g 0, g 1, g 2, g 3, hl]; rfl
  unfold nx
  rw [if_neg hne, e]
theorem valid_well : ∀ (n : Nat) (l : List UInt8), l.length ≤ n → Lib.validD l = well l
  | 0, l, h => by
    have : l = [] := List.length_eq_zero_iff.1 (by omega)
    subst this; rfl
  | n + 1, l, h => by
    by_cases hne : l = []
    · subst hne; rfl
    have hpos : 0 < l.length := List.length_pos_iff.2 hne
    have hs : (⟨l.toArray⟩ : ByteArray).size = l.length := by simp [ByteArray.size]
    have hd : (⟨l.toArray⟩ : ByteArray).data.toList = l := rfl
    have hnx := nx_decode ⟨l.toArray⟩ 0 (by rw [hs]; exact hpos)
    rw [hd, List.drop_zero] at hnx
    have hw := Lib.decode_width_pos ⟨l.toArray⟩ 0 (by rw [hs]; exact hpos)
    rw [Lib.validD_step l hne]
    unfold Lib.decodeL
    obtain ⟨D, hD⟩ : ∃ D, Utf8.decode ⟨l.toArray⟩ 0 = D := ⟨_, rfl⟩
    rw [hD] at hnx hw ⊢
    obtain ⟨m, hm⟩ : ∃ m, l.length = m + 1 := ⟨l.length - 1, by omega⟩
    by_cases hb : D.1 = 65533 ∧ D.2 = 1
    · have hD1 : D = (65533, 1) := Prod.ext hb.1 hb.2
      rw [if_pos hb]
      rw [if_pos hD1] at hnx
      unfold well
      rw [hm]
      simp only [wellF, if_neg hne, hnx, if_true]
    · have hD1 : D ≠ (65533, 1) := fun q => hb ⟨congrArg Prod.fst q, congrArg Prod.snd q⟩
      rw [if_neg hb]
      rw [if_neg hD1] at hnx
      rw [valid_well n (l.drop D.2) (by rw [List.length_drop]; omega)]
      unfold well
      rw [hm]
      simp only [wellF, if_neg hne, hnx, if_neg (show ¬ D.2 = 0 by omega)]
      exact wellF_enough _ _ _ (Nat.le_refl _) (by rw [List.length_drop]; omega)
theorem Encode_l0 (e : Int) (he : 1 ≤ e ∧ e ≤ 5) (s : ByteArray) (hz : s.size ≤ 1000000) : ∀ (d pos k : Nat) (o : List Int), s.size - pos ≤ d → d + 14 ≤ k → o.length ≤ 4 * pos → pos ≤ s.size → well (s.data.toList.drop pos) = true → utf_Encode.l0 k s (wid e) e pos o = some (o ++ encL e d (s.data.toList.drop pos)) := by
  intro d
  induction d with
  | zero =>
    intro pos k o hd hk ho hi hw
    obtain ⟨k, rfl⟩ : ∃ j, k = j + 1 := ⟨k - 1, by omega⟩
    simp only [utf_Encode.l0, encL]
    rw [if_neg (by omega), List.append_nil]
  | succ d ih =>
    intro pos k o hd hk ho hi hw
    obtain ⟨k, rfl⟩ : ∃ j, k = j + 1 := ⟨k - 1, by omega⟩
    simp only [utf_Encode.l0, encL]
    by_cases hlt : pos < s.size
    · have hne : s.data.toList.drop pos ≠ [] := by
        intro q; have := congrArg List.length q; rw [List.length_drop, ← Lib.size_eq] at this; simp at this; omega
      obtain ⟨h0, hw2⟩ := well_step hw hne
      have hwd := nx_width (s.data.toList.drop pos)
      rw [List.length_drop, ← Lib.size_eq] at hwd
      rw [if_pos hlt, if_neg hne, decode_nx s pos hlt h0, one_eq k (by omega) e he _ (nx_scalar _) o (by omega), Option.bind_some]
      rw [List.drop_drop] at hw2 ⊢
      have hl := encU_len e ((nx (s.data.toList.drop pos)).1 : Int)
      rw [ih (pos + (nx (s.data.toList.drop pos)).2) k (o ++ encU e ((nx (s.data.toList.drop pos)).1 : Int)) (by omega) (by omega) (by rw [List.length_append]; omega) (by omega) hw2, List.append_assoc]
    · have hnil : s.data.toList.drop pos = [] := List.drop_eq_nil_of_le (by rw [← Lib.size_eq]; omega)
      rw [if_neg hlt, hnil, if_pos rfl, List.append_nil]
/-- layer 1's Encode -/
def encS (e : Int) (s : ByteArray) : List Int := if 1 ≤ e ∧ e ≤ 5 ∧ well s.data.toList = true then encL e s.size s.data.toList else []
theorem Encode_eq (k : Nat) (e : Int) (s : ByteArray) (hz : s.size ≤ 1000000) (hk : s.size + 20 ≤ k) : utf_Encode.f k e s = some (encS e s) := by
  unfold utf_Encode.f encS
  rw [width_eq k (by omega), Option.bind_some]
  by_cases he : 1 ≤ e ∧ e ≤ 5
  · have hw : wid e ≠ 0 := by
      have : e = 1 ∨ e = 2 ∨ e = 3 ∨ e = 4 ∨ e = 5 := by omega
      rcases this with rfl | rfl | rfl | rfl | rfl <;> decide
    rw [if_neg hw]
    unfold utf8_ValidString.f
    rw [if_pos (by omega), Option.bind_some, valid_well _ _ (Nat.le_refl _)]
    by_cases hv : well s.data.toList = true
    · rw [if_pos hv, if_pos ⟨he.1, he.2, hv⟩]
      have := Encode_l0 e he s hz s.size 0 k [] (by omega) (by omega) (by simp) (by omega) (by rw [List.drop_zero]; exact hv)
      rw [List.drop_zero, List.nil_append] at this
      exact this
    · rw [if_neg hv, if_neg (fun q => hv q.2.2)]
  · have hw : wid e = 0 := by unfold wid; rw [if_neg (by omega), if_neg (by omega), if_neg (by omega)]
    rw [hw, if_pos rfl, if_neg (fun q => he ⟨q.1, q.2.1⟩)]
end Go.Proofs.YtmpdggphhhljhaaDoor.UtfSpec
