/- Sizes of texts in an encoding: layer 1's answer. No conditions but sizes. -/
import Derived.Test.YtmpdggphhhljhaaDoorUtfSpec9
import Derived.Test.YtmpdggphhhljhaaDoorPCx5
namespace Go.Proofs.YtmpdggphhhljhaaDoor.UtfSpec
set_option linter.unusedSimpArgs false
set_option linter.unusedVariables false
open Go.RowKit Go.Proofs.YtmpdggphhhljhaaDoor.PC Go.Proofs.YtmpdggphhhljhaaDoorW.PrintWords Go.Proofs.YtmpdggphhhljhaaDoor.Aid Go.Proofs.YtmpdggphhhljhaaDoor.BrkFns
theorem encU_wide (e c : Int) (he : 2 ≤ e ∧ e ≤ 5) : ((encU e c).length : Int) = if wid e = 2 ∧ 65536 ≤ c then wid e + wid e else wid e := by
  unfold encU
  rw [if_neg (by omega)]
  by_cases h2 : e = 2 ∨ e = 3
  · have hw : wid e = 2 := by rcases h2 with rfl | rfl <;> rfl
    rw [if_pos h2, hw]
    by_cases h3 : 65536 ≤ c
    · rw [if_pos h3, if_pos ⟨rfl, h3⟩, List.length_append, b2_len, b2_len]; rfl
    · rw [if_neg h3, if_neg (fun q => h3 q.2), b2_len]; rfl
  · have hw : wid e = 4 := by
      have : e = 4 ∨ e = 5 := by omega
      rcases this with rfl | rfl <;> rfl
    rw [if_neg h2, hw, if_neg (by omega), b4_len]; rfl
theorem Size_l0 (e : Int) (he : 2 ≤ e ∧ e ≤ 5) (s : ByteArray) (hz : s.size ≤ 1000000) : ∀ (d pos k : Nat) (n : Int), s.size - pos ≤ d → d + 14 ≤ k → 0 ≤ n ∧ n ≤ 4 * pos → pos ≤ s.size → well (s.data.toList.drop pos) = true → utf_Size.l0 k s (wid e) pos n = some (n + ((encL e d (s.data.toList.drop pos)).length : Int)) := by
  intro d
  induction d with
  | zero =>
    intro pos k n hd hk hn hi hw
    obtain ⟨k, rfl⟩ : ∃ j, k = j + 1 := ⟨k - 1, by omega⟩
    simp only [utf_Size.l0, encL]
    rw [if_neg (by omega)]
    simp
  | succ d ih =>
    intro pos k n hd hk hn hi hw
    obtain ⟨k, rfl⟩ : ∃ j, k = j + 1 := ⟨k - 1, by omega⟩
    simp only [utf_Size.l0, encL]
    by_cases hlt : pos < s.size
    · have hne : s.data.toList.drop pos ≠ [] := by
        intro q; have := congrArg List.length q; rw [List.length_drop, ← Lib.size_eq] at this; simp at this; omega
      obtain ⟨h0, hw2⟩ := well_step hw hne
      have hwd := nx_width (s.data.toList.drop pos)
      rw [List.length_drop, ← Lib.size_eq] at hwd
      have hl := encU_len e ((nx (s.data.toList.drop pos)).1 : Int)
      have hu := encU_wide e ((nx (s.data.toList.drop pos)).1 : Int) he
      have hwr : 0 ≤ wid e ∧ wid e ≤ 4 := by unfold wid; repeat' split <;> omega
      rw [if_pos hlt, if_neg hne, decode_nx s pos hlt h0]
      rw [List.drop_drop] at hw2 ⊢
      have key : (if wid e = 2 ∧ (65536 : Int) ≤ ((nx (s.data.toList.drop pos)).1 : Int) then wrap64 (wrap64 (n + wid e) + wid e) else wrap64 (n + wid e)) = n + ((encU e ((nx (s.data.toList.drop pos)).1 : Int)).length : Int) := by
        rw [hu]
        split
        · rw [wrap_id (x := n + wid e) (by omega) (by omega), wrap_id (by omega) (by omega)]; omega
        · rw [wrap_id (by omega) (by omega)]
      rw [key, ih (pos + (nx (s.data.toList.drop pos)).2) k _ (by omega) (by omega) (by omega) (by omega) hw2, List.length_append]
      congr 1; omega
    · have hnil : s.data.toList.drop pos = [] := List.drop_eq_nil_of_le (by rw [← Lib.size_eq]; omega)
      rw [if_neg hlt, hnil, if_pos rfl]; simp
theorem decodeN_len (n b0 b1 b2 b3 : Nat) (h0 : b0 < 256) (hne : Lib.decodeN n b0 b1 b2 b3 ≠ (65533, 1)) : (Lib.encodeRuneZ ((Lib.decodeN n b0 b1 b2 b3).1 : Int)).length = (Lib.decodeN n b0 b1 b2 b3).2 := by
  unfold Lib.decodeN at hne ⊢
  by_cases c1 : b0 < 128
  · rw [if_pos c1]
    dsimp only
    rw [Lib.encodeRuneZ_one (by omega) (by omega)]; rfl
  rw [if_neg c1] at hne ⊢
  by_cases c2 : b0 / 32 = 6 ∧ (1 < n ∧ b1 / 64 = 2)
  · rw [if_pos c2] at hne ⊢
    by_cases d : b0 % 32 * 64 + b1 % 64 ≥ 128
    · rw [if_pos d]
      dsimp only
      rw [Lib.encodeRuneZ_two (by omega) (by omega)]; rfl
    · rw [if_neg d] at hne; exact absurd rfl hne
  rw [if_neg c2] at hne ⊢
  by_cases c3 : b0 / 16 = 14 ∧ (1 < n ∧ b1 / 64 = 2) ∧ (2 < n ∧ b2 / 64 = 2)
  · rw [if_pos c3] at hne ⊢
    generalize hv : b0 % 16 * 4096 + b1 % 64 * 64 + b2 % 64 = v at hne ⊢
    by_cases d : v ≥ 2048 ∧ (v < 55296 ∨ (57344 ≤ v ∧ v ≤ 1114111))
    · rw [if_pos d]
      dsimp only
      rw [Lib.encodeRuneZ_three (by omega)]; rfl
    · rw [if_neg d] at hne; exact absurd rfl hne
  rw [if_neg c3] at hne ⊢
  by_cases c4 : b0 / 8 = 30 ∧ (1 < n ∧ b1 / 64 = 2) ∧ (2 < n ∧ b2 / 64 = 2) ∧ (3 < n ∧ b3 / 64 = 2)
  · rw [if_pos c4] at hne ⊢
    generalize hv : b0 % 8 * 262144 + b1 % 64 * 4096 + b2 % 64 * 64 + b3 % 64 = v at hne ⊢
    by_cases d : v ≥ 65536 ∧ (v < 55296 ∨ (57344 ≤ v ∧ v ≤ 1114111))
    · rw [if_pos d]
      dsimp only
      rw [Lib.encodeRuneZ_four (by omega) (by omega)]; rfl
    · rw [if_neg d] at hne; exact absurd rfl hne
  rw [if_neg c4] at hne
  exact absurd rfl hne
theorem nx_len {l : List UInt8} (h : (nx l).2 ≠ 0) : (Lib.encodeRuneZ ((nx l).1 : Int)).length = (nx l).2 := by
  unfold nx at h ⊢
  by_cases hl : l = []
  · rw [if_pos hl] at h; exact absurd rfl h
  rw [if_neg hl] at h ⊢
  by_cases hb : Lib.decodeN l.length (l.getD 0 0).toNat (l.getD 1 0).toNat (l.getD 2 0).toNat (l.getD 3 0).toNat = (65533, 1)
  · rw [if_pos hb] at h; exact absurd rfl h
  · rw [if_neg hb]
    exact decodeN_len _ _ _ _ _ (UInt8.toNat_lt _) hb
theorem encL_one : ∀ (d : Nat) (l : List UInt8), l.length ≤ d → well l = true → (encL 1 d l).length = l.length
  | 0, l, h, _ => by
    have : l = [] := List.length_eq_zero_iff.1 (by omega)
    subst this; rfl
  | d + 1, l, h, hw => by
    simp only [encL]
    by_cases hne : l = []
    · rw [if_pos hne, hne]; rfl
    · obtain ⟨h0, hw2⟩ := well_step hw hne
      have hwd := nx_width l
      rw [if_neg hne, List.length_append, encL_one d _ (by rw [List.length_drop]; omega) hw2, List.length_drop]
      unfold encU
      rw [if_pos rfl, nx_len h0]; omega
theorem Size_eq (k : Nat) (e : Int) (s : ByteArray) (hz : s.size ≤ 1000000) (hk : s.size + 20 ≤ k) (he : 1 ≤ e ∧ e ≤ 5) : utf_Size.f k e s = some ((encS e s).length : Int) := by
  unfold utf_Size.f
  rw [width_eq k (by omega), Option.bind_some]
  unfold utf8_ValidString.f
  rw [if_pos (by omega), Option.bind_some, valid_well _ _ (Nat.le_refl _)]
  by_cases hv : well s.data.toList = true
  · have hE : encS e s = encL e s.size s.data.toList := by unfold encS; rw [if_pos ⟨he.1, he.2, hv⟩]
    rw [if_pos hv, hE]
    by_cases h1 : e = 1
    · subst h1
      rw [if_pos (show wid 1 = 1 from rfl), encL_one _ _ (by rw [← Lib.size_eq]; omega) hv, ← Lib.size_eq]
    · have hw : wid e ≠ 1 := by
        have : e = 2 ∨ e = 3 ∨ e = 4 ∨ e = 5 := by omega
        rcases this with rfl | rfl | rfl | rfl <;> decide
      rw [if_neg hw]
      have := Size_l0 e (by omega) s hz s.size 0 k 0 (by omega) (by omega) (by omega) (by omega) (by rw [List.drop_zero]; exact hv)
      rw [List.drop_zero, Int.zero_add] at this
      exact this
  · have hE : encS e s = [] := by unfold encS; rw [if_neg (fun q => hv q.2.2)]
    rw [if_neg hv, hE]; rfl
theorem Size_zero (s : ByteArray) : ∀ (d pos k : Nat), s.size - pos ≤ d → d < k → utf_Size.l0 k s 0 pos 0 = some 0 := by
  intro d
  induction d with
  | zero =>
    intro pos k hd hk
    obtain ⟨k, rfl⟩ : ∃ j, k = j + 1 := ⟨k - 1, by omega⟩
    simp only [utf_Size.l0]
    rw [if_neg (by omega)]
  | succ d ih =>
    intro pos k hd hk
    obtain ⟨k, rfl⟩ : ∃ j, k = j + 1 := ⟨k - 1, by omega⟩
    simp only [utf_Size.l0]
    by_cases hlt : pos < s.size
    · have hw := Lib.decode_width_pos s pos hlt
      rw [if_pos hlt, if_neg (fun q => absurd q.1 (by decide)), show wrap64 (0 + 0) = 0 from wrap_id (by omega) (by omega)]
      exact ih _ _ (by omega) (by omega)
    · rw [if_neg hlt]
theorem Size_none (k : Nat) (e : Int) (s : ByteArray) (hz : s.size ≤ 1000000) (hk : s.size + 20 ≤ k) (he : ¬ (1 ≤ e ∧ e ≤ 5)) : utf_Size.f k e s = some 0 := by
  have hw : wid e = 0 := by unfold wid; rw [if_neg (by omega), if_neg (by omega), if_neg (by omega)]
  unfold utf_Size.f
  rw [width_eq k (by omega), Option.bind_some, hw]
  unfold utf8_ValidString.f
  rw [if_pos (by omega), Option.bind_some]
  by_cases hv : Lib.validD s.data.toList = true
  · rw [if_pos hv, if_neg (by decide)]
    exact Size_zero s s.size 0 k (by omega) (by omega)
  · rw [if_neg hv]
end Go.Proofs.YtmpdggphhhljhaaDoor.UtfSpec
