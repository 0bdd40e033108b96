/- The pure law WordTells: of every text and version what word it is, as the reference says. No conditions. -/
import Derived.Test.YtkphlddgfmgogaaWordRef
import Derived.Test.YtkphlddgfmgogaaPZx5
namespace Go.Proofs.Ytkphlddgfmgogaa.Pure
set_option linter.unusedSimpArgs false
set_option linter.unusedVariables false
open Go.RowKit Go.Proofs.Ytkphlddgfmgogaa.PZ Go.Proofs.YtkphlddgfmgogaaW.PrintWords Go.Proofs.Ytkphlddgfmgogaa.Aid Go.Proofs.Ytkphlddgfmgogaa.WordFns Go.Proofs.Ytkphlddgfmgogaa.WordRef

theorem words_known (k : Nat) (hk : 20 ≤ k) : targumlaw9_known.f k = some true := at_rounds targumlaw9_known.mono hk (by decide +kernel)

theorem words_l1 (v : Int) (x : ByteArray) (hx : x.size ≤ 200) (xs : List ByteArray) (n j : Int) (vs : List Int) (hv : vs.length = 3) (K : Nat) (hK : 300 ≤ K)
    (next : ∀ k, K ≤ k → targumlaw9_WordTells.l0 k v xs n (wrap64 (j + 1)) = some true) : ∀ (d k i : Nat), i + d = 3 → K + d + 1 ≤ k →
    targumlaw9_WordTells.l1 k v x xs n j vs (vs.length : Int) i = some true
  | 0, k, i, h, hk => by
    obtain ⟨k, rfl⟩ : ∃ m, k = m + 1 := ⟨k - 1, by omega⟩
    simp only [targumlaw9_WordTells.l1]
    have hm : x.toList = x.data.toList := Lib.toList_data x
    rw [if_neg (by omega), Null_eq, RefNull_eq, Merge_eq, Plain_eq x (by omega) k (by omega), RefPlain_eq x (by omega) k (by omega)]
    simp only [Option.bind_some, bne_self_eq_false, Bool.false_eq_true, if_false]
    have e : (decide (x.data.toList = [60, 60]) != (x.toList == ([60, 60] : List UInt8))) = false := by
      rw [hm, bne_eq_false_iff_eq, Bool.eq_iff_iff, decide_eq_true_eq, beq_iff_eq]
    rw [if_neg (by rw [e]; decide)]
    exact next k (by omega)
  | d + 1, k, i, h, hk => by
    obtain ⟨k, rfl⟩ : ∃ m, k = m + 1 := ⟨k - 1, by omega⟩
    simp only [targumlaw9_WordTells.l1]
    rw [if_pos (by omega), if_pos (by omega), if_pos (by omega), Bool_eq k (by omega), RefBool_eq k (by omega)]
    simp only [Option.bind_some, bne_self_eq_false, Bool.false_eq_true, if_false]
    rw [wrap_id (x := (i : Int) + 1) (by omega) (by omega)]
    have := words_l1 v x hx xs n j vs hv K hK next d k (i + 1) (by omega) (by omega)
    rw [show ((i + 1 : Nat) : Int) = (i : Int) + 1 by omega] at this
    exact this
def wneed : Nat → Nat
  | 0 => 400
  | d + 1 => wneed d + 20
theorem wneed_ge : ∀ d, 400 ≤ wneed d
  | 0 => Nat.le_refl _
  | d + 1 => Nat.le_trans (wneed_ge d) (Nat.le_add_right _ _)
theorem words_l0 (v : Int) (xs : List ByteArray) (hl : xs.length = 4) (hx : ∀ x ∈ xs, x.size ≤ 200) : ∀ (d k i : Nat), i + d = 4 → wneed d ≤ k →
    targumlaw9_WordTells.l0 k v xs (xs.length : Int) i = some true
  | 0, k, i, h, hk => by
    have hk0 : 400 ≤ k := hk
    obtain ⟨k, rfl⟩ : ∃ m, k = m + 1 := ⟨k - 1, by omega⟩
    simp only [targumlaw9_WordTells.l0]
    rw [if_neg (by omega)]
  | d + 1, k, i, h, hk => by
    have hk0 : wneed d + 20 ≤ k := hk
    have hg := wneed_ge d
    obtain ⟨k, rfl⟩ : ∃ m, k = m + 1 := ⟨k - 1, by omega⟩
    simp only [targumlaw9_WordTells.l0]
    rw [if_pos (by omega), if_pos (by omega), if_pos (by omega)]
    simp only [Option.bind_some]
    have hi : i < xs.length := by omega
    have he : rdOf ByteArray.empty xs (i : Int) = xs[i] := by
      unfold rdOf
      rw [List.getD_eq_getElem?_getD, Int.toNat_natCast, List.getElem?_eq_getElem hi]
      rfl
    rw [he]
    refine words_l1 v xs[i] (hx _ (List.getElem_mem hi)) xs _ i [v, 11, 12] rfl (wneed d) (by omega) (fun k' hk' => ?_) 3 k 0 (by omega) (by omega)
    rw [wrap_id (by omega) (by omega)]
    have := words_l0 v xs hl hx d k' (i + 1) (by omega) (by omega)
    rw [show ((i + 1 : Nat) : Int) = (i : Int) + 1 by omega] at this
    exact this

theorem WordTells : targumlaw9_WordTells.Pure := by
  intro v s n _ hs hn
  have hn' : (decide (IntKind.u8.min ≤ n) && decide (n ≤ IntKind.u8.max)) = true := hn
  rw [Bool.and_eq_true, decide_eq_true_eq, decide_eq_true_eq] at hn'
  have h0 : (0 : Int) ≤ n := hn'.1
  suffices H : ∀ k, 1000 ≤ k → targumlaw9_WordTells.f k v s n = some true from ⟨1000, H 1000 (Nat.le_refl _)⟩
  intro k hk
  unfold targumlaw9_WordTells.f
  rw [words_known _ (by omega)]
  simp only [Option.bind_some, if_true]
  have hm0 : (0 : Int) ≤ Int.tmod n 30 := Int.tmod_nonneg _ h0
  have hm1 : Int.tmod n 30 < 30 := Int.tmod_lt_of_pos _ (by decide)
  by_cases hbig : (s.size : Int) > 100
  · rw [if_pos hbig]
  · rw [if_neg hbig, if_pos hm0, if_pos hm1]
    have small : ∀ (l : List ByteArray) (i : Nat), (∀ x ∈ l, x.size ≤ 5) → (Go.Proofs.Ytkphlddgfmgogaa.XW.arrAt l i (⟨#[]⟩ : ByteArray)).size ≤ 5 := fun l i h => by
      rw [Go.Proofs.Ytkphlddgfmgogaa.XW.arrAt, List.getD_eq_getElem?_getD]
      cases hi : l[i]? with
      | none => show 0 ≤ 5; omega
      | some y => exact h y (List.mem_of_getElem? hi)
    generalize hw : Go.Proofs.Ytkphlddgfmgogaa.XW.arrAt _ (Int.toNat (Int.tmod n 30)) (⟨#[]⟩ : ByteArray) = w
    have hz : w.size ≤ 5 := by
      rw [← hw]
      exact small _ _ (by decide)
    clear hw
    rw [if_pos (by omega), if_pos (by omega)]
    refine words_l0 v _ rfl ?_ 4 k 0 rfl (show 480 ≤ k by omega)
    intro x hx
    simp only [List.mem_cons, List.not_mem_nil, or_false] at hx
    rcases hx with rfl | rfl | rfl | rfl
    · omega
    · omega
    · rw [ByteArray.size_append]; omega
    · rw [ByteArray.size_append]; show s.size + 1 ≤ 200; omega
end Go.Proofs.Ytkphlddgfmgogaa.Pure
