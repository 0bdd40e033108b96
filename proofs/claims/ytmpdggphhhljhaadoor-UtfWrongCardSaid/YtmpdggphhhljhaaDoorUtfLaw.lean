/- What the laws of chapter 1 have in common: the known answers, few signs. No conditions but sizes. -/
import Derived.Test.YtmpdggphhhljhaaDoorUtfSpec11
import Derived.Test.YtmpdggphhhljhaaDoorRefChk
import Derived.Test.YtmpdggphhhljhaaDoorPCx5
import Derived.Test.YtmpdggphhhljhaaDoorPCx7
namespace Go.Proofs.YtmpdggphhhljhaaDoor.UtfSpec
set_option linter.unusedSimpArgs false
set_option linter.unusedVariables false
open Go.RowKit Go.Proofs.YtmpdggphhhljhaaDoor.PC Go.Proofs.YtmpdggphhhljhaaDoorW.PrintWords Go.Proofs.YtmpdggphhhljhaaDoor.Aid Go.Proofs.YtmpdggphhhljhaaDoor.BrkFns Go.Proofs.YtmpdggphhhljhaaDoor.RefChk
theorem known1_at : targumlaw1_known.f 60 = some true := by decide +kernel
theorem known1 (k : Nat) (hk : 60 ≤ k) : targumlaw1_known.f k = some true := at_rounds targumlaw1_known.mono hk known1_at
theorem isB_wf {l : List Int} (h : ∀ x ∈ l, (Lit.int .u8 x).wf = true) : isB l := fun x hx => by
  have : (decide (IntKind.u8.min ≤ x) && decide (x ≤ IntKind.u8.max)) = true := h x hx
  rw [Bool.and_eq_true, decide_eq_true_iff, decide_eq_true_iff] at this
  have a : IntKind.u8.min = 0 := rfl
  have b : IntKind.u8.max = 255 := rfl
  omega
theorem u8_wf {x : Int} (h : (Lit.int .u8 x).wf = true) : 0 ≤ x ∧ x ≤ 255 := isB_wf (l := [x]) (fun y hy => by rw [List.mem_singleton.1 hy]; exact h) x List.mem_cons_self
theorem Few_eq (k : Nat) (s : ByteArray) (n : Int) (hn : n ≤ 100000) (hk : n + 10 ≤ k) (hs : s.size ≤ 140737488351232) : targumhelp_Few.f k s n = some (decide ((s.size : Int) ≤ n ∧ chk s.data.toList = -1)) := by
  unfold targumhelp_Few.f
  by_cases h : (s.size : Int) ≤ n
  · rw [if_pos h, RefCheck_eq s hs k (by omega), Option.bind_some]
    have hr := chkF_range s.data.toList.length s.data.toList 0 (Nat.le_refl _) (by omega)
    have : chk s.data.toList < 0 ↔ chk s.data.toList = -1 := by
      unfold chk
      constructor
      · intro q; rcases hr with hr | hr
        · exact hr
        · omega
      · intro q; omega
    congr 1
    rw [decide_eq_decide]
    exact ⟨fun q => ⟨h, this.1 q⟩, fun q => this.2 q.2⟩
  · rw [if_neg h, decide_eq_false (fun q => h q.1)]
/-- a text behind one scalar -/
theorem encL_cons (e : Int) (d : Nat) (l : List UInt8) (hne : l ≠ []) : encL e (d + 1) l = encU e ((nx l).1 : Int) ++ encL e d (l.drop (nx l).2) := by
  simp only [encL, if_neg hne]
theorem encL_enough (e : Int) : ∀ (n m : Nat) (l : List UInt8), well l = true → l.length ≤ n → l.length ≤ m → encL e n l = encL e m l
  | 0, 0, _, _, _, _ => rfl
  | 0, m + 1, l, _, h, _ => by
    have : l = [] := List.length_eq_zero_iff.1 (by omega)
    subst this; rfl
  | n + 1, 0, l, _, _, h => by
    have : l = [] := List.length_eq_zero_iff.1 (by omega)
    subst this; rfl
  | n + 1, m + 1, l, hw, h, h' => by
    by_cases hne : l = []
    · subst hne; rfl
    · obtain ⟨h0, hw2⟩ := well_step hw hne
      have hl := List.length_pos_iff.2 hne
      rw [encL_cons e n l hne, encL_cons e m l hne, encL_enough e n m _ hw2 (by rw [List.length_drop]; omega) (by rw [List.length_drop]; omega)]
theorem well_cons {l : List UInt8} (r : List UInt8) (n : Nat) (hn : n ≠ 0) (c : Nat) (hnx : nx (l ++ r) = (c, n)) (hl : l.length = n) (hr : well r = true) : well (l ++ r) = true := by
  unfold well at hr ⊢
  have hne : l ++ r ≠ [] := by
    intro q
    have := congrArg List.length q
    rw [List.length_append, List.length_nil] at this
    omega
  have hlen : 0 < (l ++ r).length := List.length_pos_iff.2 hne
  obtain ⟨m, hm⟩ : ∃ m, (l ++ r).length = m + 1 := ⟨(l ++ r).length - 1, by omega⟩
  rw [hm]
  simp only [wellF, if_neg hne, hnx]
  rw [if_neg hn, ← hl, List.drop_left, ← hr]
  rw [List.length_append] at hm
  exact wellF_enough _ _ _ (by omega) (Nat.le_refl _)
/-- the encoding of a scalar's text ahead of a text -/
theorem encS_cons (e : Int) (he : 1 ≤ e ∧ e ≤ 5) (c : Int) (hc : isScalar c = true) (s t : ByteArray) (hs : s.data.toList = to8 (Lib.encodeRuneZ c)) (ht : well t.data.toList = true) : well (s ++ t).data.toList = true ∧ encS e (s ++ t) = encU e c ++ encL e t.size t.data.toList := by
  have hc0 := (of_decide_eq_true hc).1
  have hlen := Lib.encodeRuneZ_length c
  have hnx := nx_enc c hc t.data.toList
  have hll : (to8 (Lib.encodeRuneZ c)).length = (Lib.encodeRuneZ c).length := to8_len _
  have hw : well (s ++ t).data.toList = true := by
    rw [append_list, hs]
    exact well_cons t.data.toList _ (by omega) _ hnx hll ht
  refine ⟨hw, ?_⟩
  unfold encS
  rw [if_pos ⟨he.1, he.2, hw⟩]
  have hsz : (s ++ t).size = (Lib.encodeRuneZ c).length + t.size := by
    rw [ByteArray.size_append, Lib.size_eq s, hs, hll]
  obtain ⟨n, hn⟩ : ∃ n, (Lib.encodeRuneZ c).length + t.size = n + 1 := ⟨(Lib.encodeRuneZ c).length + t.size - 1, by omega⟩
  rw [hsz, hn, append_list, hs, encL_cons e n _ (by
    intro q
    have := congrArg List.length q
    rw [List.length_append, hll, List.length_nil] at this
    omega), hnx]
  dsimp only
  rw [show (c.toNat : Int) = c by omega, ← hll, List.drop_left]
  congr 1
  exact encL_enough e _ _ _ ht (by rw [← Lib.size_eq]; omega) (by rw [← Lib.size_eq]; omega)
/-- bytes behind a mark aren't two noughts -/
def noNul (r : List Int) : Prop := r = [] ∨ (∃ x r', r = x :: r' ∧ x ≠ 0)
theorem atI_nil (i : Nat) : atI [] i = -1 := rfl
theorem atI_zero (x : Int) (l : List Int) : atI (x :: l) 0 = x := rfl
theorem atI_succ (x : Int) (l : List Int) (i : Nat) : atI (x :: l) (i + 1) = atI l i := rfl
theorem enc1_first (c : Int) (hc : isScalar c = true) (h0 : c ≠ 0) (r : List Int) : atI (encU 1 c ++ r) 0 ≠ 0 := by
  obtain ⟨h1, h2, h3⟩ := of_decide_eq_true hc
  unfold encU
  rw [if_pos rfl]
  by_cases a1 : c ≤ 127
  · rw [Lib.encodeRuneZ_one (by omega) a1]; exact h0
  by_cases a2 : c ≤ 2047
  · rw [Lib.encodeRuneZ_two (by omega) a2]; show 192 + c / 64 ≠ 0; omega
  by_cases a3 : c ≤ 65535
  · rw [Lib.encodeRuneZ_three (by omega)]; show 224 + c / 4096 ≠ 0; omega
  · rw [Lib.encodeRuneZ_four (by omega) (by omega)]; show 240 + c / 262144 ≠ 0; omega
theorem b2_ne (c : Int) (h : 0 < c ∧ c < 65536) (r : List Int) : ¬ (atI (b2 true c ++ r) 0 = 0 ∧ atI (b2 true c ++ r) 1 = 0) := by
  show ¬ (c % 256 = 0 ∧ c / 256 % 256 = 0)
  omega
theorem enc3_first (c : Int) (hc : isScalar c = true) (h0 : c ≠ 0) (r : List Int) : ¬ (atI (encU 3 c ++ r) 0 = 0 ∧ atI (encU 3 c ++ r) 1 = 0) := by
  obtain ⟨h1, h2, h3⟩ := of_decide_eq_true hc
  unfold encU
  rw [if_neg (by omega), if_pos (by omega), show lit 3 = true from rfl]
  by_cases a3 : 65536 ≤ c
  · rw [if_pos a3, List.append_assoc]; exact b2_ne _ (by omega) _
  · rw [if_neg a3]; exact b2_ne _ (by omega) _
/-- a text's first bytes, little units: not two noughts -/
theorem first_ne (e : Int) (d : Nat) (l : List UInt8) (hc : chk l = -1) (h : e = 1 ∨ e = 3) : ¬ (atI (encL e d l) 0 = 0 ∧ (atI (encL e d l) 1 = 0 ∨ e = 1)) := by
  cases d with
  | zero => exact fun q => absurd q.1 (by show ¬ ((-1 : Int) = 0); decide)
  | succ d =>
    by_cases hne : l = []
    · subst hne; exact fun q => absurd q.1 (by show ¬ ((-1 : Int) = 0); decide)
    · obtain ⟨h0, h1, h2⟩ := chk_step hc hne
      rw [encL_cons e d l hne]
      rcases h with rfl | rfl
      · exact fun q => enc1_first _ (nx_scalar l) (by omega) _ q.1
      · intro q
        refine enc3_first _ (nx_scalar l) (by omega) _ ⟨q.1, q.2.resolve_right (by decide)⟩
end Go.Proofs.YtmpdggphhhljhaaDoor.UtfSpec
