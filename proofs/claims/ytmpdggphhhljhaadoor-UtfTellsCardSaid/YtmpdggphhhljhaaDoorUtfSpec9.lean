/- Texts as bytes: the reference's Encode, and the sizes. No conditions but sizes. -/
import Derived.Test.YtmpdggphhhljhaaDoorUtfSpec8
import Derived.Test.YtmpdggphhhljhaaDoorPTx5
import Derived.Test.YtmpdggphhhljhaaDoorPTx9
namespace Go.Proofs.YtmpdggphhhljhaaDoor.UtfSpec
set_option linter.unusedSimpArgs false
set_option linter.unusedVariables false
open Go.RowKit Go.Proofs.YtmpdggphhhljhaaDoor.PT Go.Proofs.YtmpdggphhhljhaaDoorW.PrintWords Go.Proofs.YtmpdggphhhljhaaDoor.Aid Go.Proofs.YtmpdggphhhljhaaDoor.BrkFns
theorem rEncode_j2 (k : Nat) (hk : 8 ≤ k) (e : Int) (he : 2 ≤ e ∧ e ≤ 5) (s : ByteArray) (o : List Int) (ho : o.length ≤ 10000000) (i c : Int) (hc : isScalar c = true) : targumref1_Encode.j2 (k + 1) e s o i c (decide (e = 2 ∨ e = 3)) = targumref1_Encode.l0 k e s (o ++ encU e c) i := by
  have hs := of_decide_eq_true hc
  simp only [targumref1_Encode.j2]
  unfold encU
  rw [if_neg (show ¬ e = 1 by omega)]
  by_cases h2 : e = 2 ∨ e = 3
  · have ht : (e == 3) = lit e := by rcases h2 with rfl | rfl <;> rfl
    rw [if_pos (decide_eq_true h2), if_pos h2, ht]
    by_cases h3 : c ≥ 65536
    · have e1 : wrap64 (55296 + wrap64 (Int.tdiv (wrap64 (c - 65536)) 1024)) = 55296 + (c - 65536) / 1024 := by
        rw [wrap_id (x := c - 65536) (by omega) (by omega), Int.tdiv_eq_ediv_of_nonneg (by omega), wrap_id (x := (c - 65536) / 1024) (by omega) (by omega), wrap_id (by omega) (by omega)]
      have e2 : wrap64 (56320 + Int.tmod (wrap64 (c - 65536)) 1024) = 56320 + (c - 65536) % 1024 := by
        rw [wrap_id (x := c - 65536) (by omega) (by omega), Int.tmod_eq_emod_of_nonneg (by omega), wrap_id (by omega) (by omega)]
      rw [if_pos h3, if_pos (show 65536 ≤ c by omega), e1, e2, units2 k (by omega) _ _ (by omega), Option.bind_some, if_pos (by rw [b2_len]; omega), Option.bind_some, units2 k (by omega) _ _ (by omega), Option.bind_some, if_pos (by rw [List.length_append, b2_len, b2_len]; omega), List.append_assoc]
    · rw [if_neg h3, if_neg (show ¬ 65536 ≤ c by omega), units2 k (by omega) _ _ (by omega), Option.bind_some, if_pos (by rw [b2_len]; omega)]
  · have ht : (e == 5) = lit e := by
      have : e = 4 ∨ e = 5 := by omega
      rcases this with rfl | rfl <;> rfl
    rw [if_neg (by rw [decide_eq_false h2]; exact Bool.false_ne_true), if_neg h2, ht, units4 k (by omega) _ _ (by omega), Option.bind_some, if_pos (by rw [b4_len]; omega)]
theorem rEncode_l0 (e : Int) (he : 1 ≤ e ∧ e ≤ 5) (s : ByteArray) (hz : s.size ≤ 1000000) : ∀ (d pos k : Nat) (o : List Int), s.size - pos ≤ d → 2 * d + 14 ≤ k → o.length ≤ 4 * pos → pos ≤ s.size → well (s.data.toList.drop pos) = true → targumref1_Encode.l0 k e s o (pos : Int) = some (o ++ encL e d (s.data.toList.drop pos)) := by
  intro d
  induction d with
  | zero =>
    intro pos k o hd hk ho hi hw
    obtain ⟨k, rfl⟩ : ∃ j, k = j + 1 := ⟨k - 1, by omega⟩
    simp only [targumref1_Encode.l0, encL]
    rw [if_neg (by omega), List.append_nil]
  | succ d ih =>
    intro pos k o hd hk ho hi hw
    obtain ⟨k, rfl⟩ : ∃ j, k = j + 2 := ⟨k - 2, by omega⟩
    simp only [targumref1_Encode.l0, encL]
    by_cases hlt : pos < s.size
    · have hne : s.data.toList.drop pos ≠ [] := by
        intro q; have := congrArg List.length q; rw [List.length_drop, ← Lib.size_eq] at this; simp at this; omega
      obtain ⟨h0, hw2⟩ := well_step hw hne
      have hwd := nx_width (s.data.toList.drop pos)
      rw [List.length_drop, ← Lib.size_eq] at hwd
      have hl := encU_len e ((nx (s.data.toList.drop pos)).1 : Int)
      have hsc := nx_scalar (s.data.toList.drop pos)
      rw [if_pos (by omega), if_neg hne, Next_eq (k + 1) (by omega) s (by omega), if_pos ⟨by omega, by omega⟩, Option.bind_some, Int.toNat_natCast]
      rw [List.drop_drop] at hw2 ⊢
      have hi' : wrap64 ((pos : Int) + ((nx (s.data.toList.drop pos)).2 : Int)) = ((pos + (nx (s.data.toList.drop pos)).2 : Nat) : Int) := by rw [wrap_id (by omega) (by omega)]; omega
      dsimp only
      rw [hi']
      have fin := fun K hK => ih (pos + (nx (s.data.toList.drop pos)).2) K (o ++ encU e ((nx (s.data.toList.drop pos)).1 : Int)) (by omega) hK (by rw [List.length_append]; omega) (by omega) hw2
      rw [← List.append_assoc]
      by_cases h1 : e = 1
      · rw [if_pos h1, rUtf8_eq _ hsc, Option.bind_some]
        have hu : encU e ((nx (s.data.toList.drop pos)).1 : Int) = Lib.encodeRuneZ ((nx (s.data.toList.drop pos)).1 : Int) := by unfold encU; rw [if_pos h1]
        rw [← hu, if_pos (by omega)]
        exact fin (k + 1) (by omega)
      · have hj := rEncode_j2 k (by omega) e (by omega) s o (by omega) ((pos + (nx (s.data.toList.drop pos)).2 : Nat) : Int) ((nx (s.data.toList.drop pos)).1 : Int) hsc
        rw [if_neg h1]
        by_cases h2 : e = 2
        · rw [if_pos h2, show (e == 2) = decide (e = 2 ∨ e = 3) by subst h2; rfl, hj]
          exact fin k (by omega)
        · rw [if_neg h2, show (e == 3) = decide (e = 2 ∨ e = 3) by
            by_cases h3 : e = 3
            · subst h3; rfl
            · rw [beq_eq_false_iff_ne.2 h3, decide_eq_false (by omega)], hj]
          exact fin k (by omega)
    · have hnil : s.data.toList.drop pos = [] := List.drop_eq_nil_of_le (by rw [← Lib.size_eq]; omega)
      rw [if_neg (by omega), hnil, if_pos rfl, List.append_nil]
theorem rEncode_eq (k : Nat) (e : Int) (s : ByteArray) (hz : s.size ≤ 1000000) (hk : 2 * s.size + 20 ≤ k) : targumref1_Encode.f k e s = some (encS e s) := by
  obtain ⟨k, rfl⟩ : ∃ j, k = j + 1 := ⟨k - 1, by omega⟩
  unfold targumref1_Encode.f encS
  by_cases h1 : e < 1
  · rw [if_pos h1, if_neg (by omega)]
    simp only [targumref1_Encode.j0, if_true]
  rw [if_neg h1]
  by_cases h5 : e > 5
  · rw [if_pos h5, if_neg (by omega)]
    simp only [targumref1_Encode.j0, if_true]
  rw [if_neg h5, Well_eq s (by omega) (k + 1) (by omega), Option.bind_some]
  by_cases hv : well s.data.toList = true
  · rw [hv, if_pos ⟨by omega, by omega, rfl⟩]
    simp only [targumref1_Encode.j0, Bool.not_true, Bool.false_eq_true, if_false]
    have := rEncode_l0 e (by omega) s hz s.size 0 k [] (by omega) (by omega) (by simp) (by omega) (by rw [List.drop_zero]; exact hv)
    rw [List.drop_zero, List.nil_append] at this
    exact this
  · rw [Bool.eq_false_iff.2 hv, if_neg (by rintro ⟨_, _, q⟩; cases q)]
    simp only [targumref1_Encode.j0, Bool.not_false, if_true]
theorem rSize_eq (k : Nat) (e : Int) (s : ByteArray) (hz : s.size ≤ 1000000) (hk : 2 * s.size + 20 ≤ k) : targumref1_Size.f k e s = some ((encS e s).length : Int) := by
  unfold targumref1_Size.f
  rw [rEncode_eq k e s hz hk, Option.bind_some]
end Go.Proofs.YtmpdggphhhljhaaDoor.UtfSpec
