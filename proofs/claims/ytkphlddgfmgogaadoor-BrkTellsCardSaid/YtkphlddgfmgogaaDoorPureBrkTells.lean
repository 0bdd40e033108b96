/- The pure law BrkTells: layer 2 tells of every text, place and row of three numbers what its reference tells. No conditions. -/
import Derived.Test.YtkphlddgfmgogaaDoorRefBrk
import Derived.Test.YtkphlddgfmgogaaDoorPBx12
namespace Go.Proofs.YtkphlddgfmgogaaDoor.Pure
set_option linter.unusedSimpArgs false
set_option linter.unusedVariables false
open Go.RowKit Go.Proofs.YtkphlddgfmgogaaDoor.PB Go.Proofs.YtkphlddgfmgogaaDoorW.PrintWords Go.Proofs.YtkphlddgfmgogaaDoor.Aid Go.Proofs.YtkphlddgfmgogaaDoor.BrkFns Go.Proofs.YtkphlddgfmgogaaDoor.BrkMarks Go.Proofs.YtkphlddgfmgogaaDoor.RefBrk

theorem tells_known (k : Nat) (hk : 60 ≤ k) : targumlaw2_known.f k = some true := at_rounds targumlaw2_known.mono hk (by decide +kernel)

theorem tells_l2 (s : ByteArray) (hs : s.size ≤ 300) : ∀ (d k i : Nat), i + d = s.size + 1 → d + 20 ≤ k → targumlaw2_BrkTells.l2 k s i = some true
  | 0, k, i, h, hk => by
    obtain ⟨k, rfl⟩ : ∃ m, k = m + 1 := ⟨k - 1, by omega⟩
    simp only [targumlaw2_BrkTells.l2]
    rw [if_neg (by omega)]
  | d + 1, k, i, h, hk => by
    obtain ⟨k, rfl⟩ : ∃ m, k = m + 1 := ⟨k - 1, by omega⟩
    simp only [targumlaw2_BrkTells.l2]
    rw [if_pos (by omega), Break_eq k (by omega), RefBreak_eq k (by omega) 11 s (by omega), May_eq k (by omega), RefMay_eq k (by omega) s (by omega)]
    simp only [Option.bind_some, if_true]
    rw [wrap_id (by omega) (by omega)]
    have := tells_l2 s hs d k (i + 1) (by omega) (by omega)
    rw [show ((i + 1 : Nat) : Int) = (i : Int) + 1 by omega] at this
    exact this
theorem tells_l1 (s : ByteArray) (hs : s.size ≤ 300) (vs : List Int) (n j : Int) (xs : List S27) (hx : xs.length ≤ 301) (K : Nat) (hK : 400 ≤ K)
    (next : ∀ k, K ≤ k → targumlaw2_BrkTells.l0 k s vs n (wrap64 (j + 1)) = some true) : ∀ (d k i : Nat), i + d = xs.length → K + d + 1 ≤ k →
    targumlaw2_BrkTells.l1 k s vs n j xs (xs.length : Int) i = some true
  | 0, k, i, h, hk => by
    obtain ⟨k, rfl⟩ : ∃ m, k = m + 1 := ⟨k - 1, by omega⟩
    simp only [targumlaw2_BrkTells.l1]
    rw [if_neg (by omega)]
    exact next k (by omega)
  | d + 1, k, i, h, hk => by
    obtain ⟨k, rfl⟩ : ∃ m, k = m + 1 := ⟨k - 1, by omega⟩
    simp only [targumlaw2_BrkTells.l1]
    rw [if_pos (by omega), if_pos (by omega), if_pos (by omega)]
    generalize (rd_T27 xs (i : Int)).f0 = a
    generalize (rd_T27 xs (i : Int)).f1 = b
    generalize (rd_T27 xs (i : Int)).f2 = c
    rw [Indent_eq s (by omega), RefIndent_eq k s (by omega) (by omega), Blank_eq s (by omega), RefBlank_eq k s (by omega) (by omega), Marker_eq k (by omega), RefMarker_eq k s (by omega) (by omega)]
    simp only [Option.bind_some, if_true, bne_self_eq_false, Bool.false_eq_true, if_false]
    rw [wrap_id (x := (i : Int) + 1) (by omega) (by omega)]
    have := tells_l1 s hs vs n j xs hx K hK next d k (i + 1) (by omega) (by omega)
    rw [show ((i + 1 : Nat) : Int) = (i : Int) + 1 by omega] at this
    exact this
def need : Nat → Nat
  | 0 => 800
  | d + 1 => need d + 400
theorem need_ge : ∀ d, 800 ≤ need d
  | 0 => Nat.le_refl _
  | d + 1 => Nat.le_trans (need_ge d) (Nat.le_add_right _ _)
theorem tells_l0 (s : ByteArray) (hs : s.size ≤ 300) (vs : List Int) (hv : vs.length = 3) : ∀ (d k i : Nat), i + d = 3 → need d ≤ k →
    targumlaw2_BrkTells.l0 k s vs (vs.length : Int) i = some true
  | 0, k, i, h, hk => by
    have hk0 : 800 ≤ k := hk
    obtain ⟨k, rfl⟩ : ∃ m, k = m + 1 := ⟨k - 1, by omega⟩
    simp only [targumlaw2_BrkTells.l0]
    have hk' : 800 ≤ k + 1 := hk
    rw [if_neg (by omega)]
    exact tells_l2 s hs (s.size + 1) k 0 (by omega) (by omega)
  | d + 1, k, i, h, hk => by
    have hk0 : need d + 400 ≤ k := hk
    have hg0 := need_ge d
    obtain ⟨k, rfl⟩ : ∃ m, k = m + 1 := ⟨k - 1, by omega⟩
    simp only [targumlaw2_BrkTells.l0]
    have hk' : need d + 400 ≤ k + 1 := hk
    have hg := need_ge d
    clear hk
    rw [if_pos (by omega), if_pos (by omega), if_pos (by omega)]
    generalize rd vs (i : Int) = v
    rw [Lines_eq v s (by omega) k (by omega), RefLines_eq v s (by omega) k (by omega)]
    have hl := lines_length v s
    simp only [Option.bind_some]
    rw [hLines_eq (lines v s) (lines v s) (by omega) k (by omega)]
    simp only [Option.bind_some, decide_true, if_true]
    refine tells_l1 s hs vs _ i (lines v s) (by omega) (need d) (by omega) (fun k' hk'' => ?_) (lines v s).length k 0 (by omega) (by omega)
    rw [wrap_id (by omega) (by omega)]
    have := tells_l0 s hs vs hv d k' (i + 1) (by omega) (by omega)
    rw [show ((i + 1 : Nat) : Int) = (i : Int) + 1 by omega] at this
    exact this

theorem BrkTells : targumlaw2_BrkTells.Pure := by
  intro s v i a b c hs _ _ _ _ _
  suffices H : ∀ k, 2100 ≤ k → targumlaw2_BrkTells.f (k + 1) s v i a b c = some true from ⟨2100 + 1, H 2100 (Nat.le_refl _)⟩
  intro k hk
  unfold targumlaw2_BrkTells.f
  rw [tells_known _ (by omega)]
  simp only [Option.bind_some, if_true]
  by_cases hbig : (s.size : Int) > 300
  · rw [if_pos hbig]
  · rw [if_neg hbig, Break_eq (k + 1) (by omega), RefBreak_eq (k + 1) (by omega) v s (by omega), May_eq (k + 1) (by omega), RefMay_eq (k + 1) (by omega) s (by omega), Check_eq s (by omega) (k + 1) (by omega), RefCheck_eq s (by omega) (k + 1) (by omega),
      Indent_eq s (by omega), RefIndent_eq (k + 1) s (by omega) (by omega), Blank_eq s (by omega), RefBlank_eq (k + 1) s (by omega) (by omega), Marker_eq (k + 1) (by omega), RefMarker_eq (k + 1) s (by omega) (by omega)]
    simp only [Option.bind_some, if_true, bne_self_eq_false, Bool.false_eq_true, if_false, targumlaw2_BrkTells.j0]
    exact tells_l0 s (by omega) [11, 12, v] rfl 3 k 0 rfl (show 2000 ≤ k by omega)
end Go.Proofs.YtkphlddgfmgogaaDoor.Pure
