/- The pure law BrkBegins: spaces ahead are counted, blanks alone are blank, three signs and what may stand behind them are a marker. No conditions. -/
import Derived.Test.YtkphlddgfmgogaaDoorBrkMarks
import Derived.Test.YtkphlddgfmgogaaDoorPBx8
namespace Go.Proofs.YtkphlddgfmgogaaDoor.Pure
set_option linter.unusedSimpArgs false
set_option linter.unusedVariables false
open Go.RowKit Go.Proofs.YtkphlddgfmgogaaDoor.PB Go.Proofs.YtkphlddgfmgogaaDoorW.PrintWords Go.Proofs.YtkphlddgfmgogaaDoor.Aid Go.Proofs.YtkphlddgfmgogaaDoor.BrkFns Go.Proofs.YtkphlddgfmgogaaDoor.BrkMarks

def spaces (n : Nat) : ByteArray := ⟨(List.replicate n (32 : UInt8)).toArray⟩
theorem spaces_size (n : Nat) : (spaces n).size = n := by rw [Lib.size_eq]; show (List.replicate n (32 : UInt8)).length = n; simp
theorem spaces_list (n : Nat) : (spaces n).data.toList = List.replicate n 32 := rfl
theorem spaces_succ (n : Nat) : spaces n ++ (⟨#[32]⟩ : ByteArray) = spaces (n + 1) := by
  apply ext_list
  rw [append_list, spaces_list, spaces_list, List.replicate_succ']
theorem begins_known (k : Nat) (hk : 60 ≤ k) : targumlaw2_known.f k = some true := at_rounds targumlaw2_known.mono hk (by decide +kernel)

theorem begins_end (k : Nat) (rest : ByteArray) (hr : rest.size ≤ 50) (n : Nat) (hn : n < 40) (m g : ByteArray) (w : Int)
    (hm : (m.data.toList = [45, 45, 45] ∧ w = 1) ∨ (m.data.toList = [46, 46, 46] ∧ w = 2)) (hg : g.data.toList = [32] ∨ g.data.toList = [9]) :
    targumlaw2_BrkBegins.j3 (k + 2) rest n (spaces n) m w g = some true := by
  have zm : m.size = 3 := by rw [Lib.size_eq]; rcases hm with ⟨h, _⟩ | ⟨h, _⟩ <;> rw [h] <;> rfl
  have zg : g.size = 1 := by rw [Lib.size_eq]; rcases hg with h | h <;> rw [h] <;> rfl
  have zs := spaces_size n
  have z120 : (⟨#[120]⟩ : ByteArray).size = 1 := rfl
  have z32 : (⟨#[32]⟩ : ByteArray).size = 1 := rfl
  have l120 : (⟨#[120]⟩ : ByteArray).data.toList = [120] := rfl
  have l32 : (⟨#[32]⟩ : ByteArray).data.toList = [32] := rfl
  have za : (m ++ g ++ rest).size ≤ 60 := by rw [ByteArray.size_append, ByteArray.size_append]; omega
  simp only [targumlaw2_BrkBegins.j3, targumlaw2_whole.f, Option.bind_some, Marker_whole]
  rw [if_pos (by omega), if_pos (by rw [ByteArray.size_append]; omega), if_pos (by omega), if_pos (by rw [ByteArray.size_append, z120]; omega)]
  have a1 : markS (m ++ g ++ rest).data.toList = w := by
    rw [append_list, append_list]
    rcases hm with ⟨h, rfl⟩ | ⟨h, rfl⟩ <;> rcases hg with h' | h' <;> rw [h, h'] <;> simp [markS, ba, List.isPrefixOf]
  have a2 : markS m.data.toList = w := by
    rcases hm with ⟨h, rfl⟩ | ⟨h, rfl⟩ <;> rw [h] <;> simp [markS, ba, List.isPrefixOf]
  have a3 : markS (m ++ (⟨#[120]⟩ : ByteArray) ++ rest).data.toList = 0 := by
    rw [append_list, append_list, l120]
    rcases hm with ⟨h, rfl⟩ | ⟨h, rfl⟩ <;> rw [h] <;> simp [markS, ba, List.isPrefixOf]
  have a4 : markS ((⟨#[32]⟩ : ByteArray) ++ (m ++ g ++ rest)).data.toList = 0 := by
    rw [append_list, append_list, append_list, l32]
    rcases hm with ⟨h, rfl⟩ | ⟨h, rfl⟩ <;> rcases hg with h' | h' <;> rw [h, h'] <;> simp [markS, ba, List.isPrefixOf]
  have lb : (spaces n ++ (⟨#[120]⟩ : ByteArray) ++ rest).data.toList = List.replicate n 32 ++ 120 :: rest.data.toList := by
    rw [append_list, append_list, l120, spaces_list]; simp
  have zb : (spaces n ++ (⟨#[120]⟩ : ByteArray) ++ rest).size ≤ 4611686018427387904 := by rw [ByteArray.size_append, ByteArray.size_append, z120]; omega
  have a5 : leadS (spaces n ++ (⟨#[120]⟩ : ByteArray) ++ rest).data.toList = n := by
    rw [lb]
    unfold leadS
    clear zs zb lb za hn
    induction n with
    | zero => simp
    | succ n ih =>
      rw [List.replicate_succ, List.cons_append, List.takeWhile_cons]
      simp at ih ⊢
      first | done | omega
  have a6 : blankS (spaces n ++ (⟨#[120]⟩ : ByteArray) ++ rest).data.toList = false := by
    rw [lb]; simp [blankS]
  have a7 : blankS (spaces n).data.toList = true := by rw [spaces_list]; simp [blankS]
  have a8 : blankS (spaces n ++ g).data.toList = true := by
    rw [append_list, spaces_list]
    rcases hg with h' | h' <;> rw [h'] <;> simp [blankS]
  have a9 : blankS (m ++ g ++ rest).data.toList = false := by
    rw [append_list, append_list]
    rcases hm with ⟨h, rfl⟩ | ⟨h, rfl⟩ <;> rw [h] <;> simp [blankS]
  rw [a1, if_pos rfl, a2, if_pos rfl, if_pos (by omega), if_pos (by rw [ByteArray.size_append, z120]; omega), a3, if_pos rfl, if_pos (by omega), a4, if_pos rfl,
    Indent_whole _ zb, Blank_whole _ zb, Blank_whole _ (by omega), Blank_whole _ (by rw [ByteArray.size_append]; omega), Blank_whole _ (by omega), a5, a6, a7, a8, a9]
  simp only [Option.bind_some, if_true, Bool.false_eq_true, if_false, Bool.not_false]
  rw [if_pos (by omega)]

theorem begins_l1 (rest : ByteArray) (hr : rest.size ≤ 50) (p t : Bool) (n : Nat) (hn : n < 40) : ∀ (d j k : Nat), j + d = n → d + 6 ≤ k →
    targumlaw2_BrkBegins.l1 k rest p t n (spaces j) j = some true
  | 0, j, k, hj, hk => by
    obtain rfl : j = n := by omega
    obtain ⟨k, rfl⟩ : ∃ m, k = m + 4 := ⟨k - 4, by omega⟩
    simp only [targumlaw2_BrkBegins.l1, targumlaw2_BrkBegins.j2]
    rw [if_neg (by omega)]
    cases p <;> cases t <;> simp only [Bool.false_eq_true, if_false, if_true]
    · exact begins_end k rest hr j hn _ _ _ (.inl ⟨rfl, rfl⟩) (.inl rfl)
    · exact begins_end k rest hr j hn _ _ _ (.inl ⟨rfl, rfl⟩) (.inr rfl)
    · exact begins_end k rest hr j hn _ _ _ (.inr ⟨rfl, rfl⟩) (.inl rfl)
    · exact begins_end k rest hr j hn _ _ _ (.inr ⟨rfl, rfl⟩) (.inr rfl)
  | d + 1, j, k, hj, hk => by
    obtain ⟨k, rfl⟩ : ∃ m, k = m + 1 := ⟨k - 1, by omega⟩
    simp only [targumlaw2_BrkBegins.l1]
    rw [if_pos (by omega), if_pos (by rw [spaces_size]; omega), spaces_succ, wrap_id (by omega) (by omega)]
    have := begins_l1 rest hr p t n hn d (j + 1) k (by omega) (by omega)
    rw [show ((j + 1 : Nat) : Int) = (j : Int) + 1 by omega] at this
    exact this

theorem begins_l0 (n : Int) (h0 : 0 ≤ n) (h1 : n ≤ 255) (rest : ByteArray) (hr : rest.size ≤ 50) (p t : Bool) : ∀ (d i k : Nat), i + d = rest.size → d + 70 ≤ k →
    targumlaw2_BrkBegins.l0 k n rest p t i = some true
  | 0, i, k, hi, hk => by
    obtain ⟨k, rfl⟩ : ∃ m, k = m + 1 := ⟨k - 1, by omega⟩
    simp only [targumlaw2_BrkBegins.l0]
    rw [if_neg (by omega)]
    have hm : Int.tmod n 40 = ((n.toNat % 40 : Nat) : Int) := by
      rw [Int.tmod_eq_emod_of_nonneg h0]; omega
    rw [hm, wrap_id (by omega) (by omega)]
    have := begins_l1 rest hr p t (n.toNat % 40) (by omega) (n.toNat % 40) 0 k (by omega) (by omega)
    exact this
  | d + 1, i, k, hi, hk => by
    obtain ⟨k, rfl⟩ : ∃ m, k = m + 1 := ⟨k - 1, by omega⟩
    simp only [targumlaw2_BrkBegins.l0]
    rw [if_pos (by omega)]
    obtain ⟨r, hr'⟩ := RefBreak_some k (by omega) 11 rest (by omega) i (by omega) (by omega)
    rw [hr']
    simp only [Option.bind_some]
    split
    · rfl
    · rw [wrap_id (by omega) (by omega)]
      have := begins_l0 n h0 h1 rest hr p t d (i + 1) k (by omega) (by omega)
      rw [show ((i + 1 : Nat) : Int) = (i : Int) + 1 by omega] at this
      exact this

theorem BrkBegins : targumlaw2_BrkBegins.Pure := by
  intro n rest p t hn hs
  refine ⟨200, ?_⟩
  unfold targumlaw2_BrkBegins.f
  rw [begins_known _ (by omega)]
  simp only [Option.bind_some, if_true]
  split
  · rfl
  · have hn' : (decide (IntKind.u8.min ≤ n) && decide (n ≤ IntKind.u8.max)) = true := hn
    rw [Bool.and_eq_true, decide_eq_true_eq, decide_eq_true_eq] at hn'
    have h0 : (0 : Int) ≤ n := hn'.1
    have h1 : n ≤ 255 := hn'.2
    exact begins_l0 n h0 h1 rest (by omega) p t rest.size 0 200 (by omega) (by omega)
end Go.Proofs.YtkphlddgfmgogaaDoor.Pure
