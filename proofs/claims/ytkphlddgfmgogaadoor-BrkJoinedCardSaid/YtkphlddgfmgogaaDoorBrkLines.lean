/- What the lines of a text are, in plain words. No conditions. -/
import Derived.Test.YtkphlddgfmgogaaDoorBrkFns
import Derived.Test.YtkphlddgfmgogaaDoorPJx2
import Derived.Test.YtkphlddgfmgogaaDoorPJx4
namespace Go.Proofs.YtkphlddgfmgogaaDoor.BrkFns
set_option linter.unusedSimpArgs false
set_option linter.unusedVariables false
open Go.RowKit Go.Proofs.YtkphlddgfmgogaaDoor.PJ Go.Proofs.YtkphlddgfmgogaaDoorW.PrintWords Go.Proofs.YtkphlddgfmgogaaDoor.Aid

theorem brkW_range (v : Int) (l : List UInt8) : 0 ≤ brkW v l ∧ brkW v l ≤ l.length ∧ brkW v l ≤ 3 := by
  have len : ∀ c : List UInt8, c.isPrefixOf l = true → c.length ≤ l.length := fun c h => (List.isPrefixOf_iff_prefix.1 h).length_le
  unfold brkW
  split
  · rename_i h
    rcases h.2 with h' | h' <;> have := len _ h' <;> simp only [List.length_cons, List.length_nil] at this <;> omega
  · split
    · rename_i h
      rcases h with h' | h'
      · have := len _ h'.2; simp only [List.length_cons, List.length_nil] at this; omega
      · have := len _ h'; simp only [List.length_cons, List.length_nil] at this; omega
    · split
      · rename_i h
        have : 0 < l.length := by
          cases l with
          | nil => simp [ba] at h
          | cons => simp
        omega
      · omega

/-- the lines of what is left of a text: its first byte is byte i, the line at hand begins at 'a' -/
def lns : Nat → Int → List UInt8 → Int → Int → List S27
  | 0, _, _, a, i => if a < i then [⟨a, i, i⟩] else []
  | n + 1, v, l, a, i => if l = [] then (if a < i then [⟨a, i, i⟩] else []) else
      if brkW v l = 0 then lns n v (l.drop 1) a (i + 1) else ⟨a, i, i + brkW v l⟩ :: lns n v (l.drop (brkW v l).toNat) (i + brkW v l) (i + brkW v l)

theorem lns_enough : ∀ (n m : Nat) (v : Int) (l : List UInt8) (a i : Int), l.length ≤ n → l.length ≤ m → lns n v l a i = lns m v l a i
  | 0, 0, _, _, _, _, _, _ => rfl
  | 0, m + 1, v, l, a, i, h, _ => by
    have : l = [] := List.length_eq_zero_iff.1 (by omega)
    subst this; simp [lns]
  | n + 1, 0, v, l, a, i, _, h => by
    have : l = [] := List.length_eq_zero_iff.1 (by omega)
    subst this; simp [lns]
  | n + 1, m + 1, v, l, a, i, h, h' => by
    simp only [lns]
    by_cases hl : l = []
    · rw [if_pos hl, if_pos hl]
    · have hp := List.length_pos_iff.2 hl
      rw [if_neg hl, if_neg hl]
      by_cases hw : brkW v l = 0
      · rw [if_pos hw, if_pos hw]
        exact lns_enough n m v _ _ _ (by rw [List.length_drop]; omega) (by rw [List.length_drop]; omega)
      · have := brkW_range v l
        rw [if_neg hw, if_neg hw]
        rw [lns_enough n m v _ _ _ (by rw [List.length_drop]; omega) (by rw [List.length_drop]; omega)]
theorem lns_length : ∀ (n : Nat) (v : Int) (l : List UInt8) (a i : Int), (lns n v l a i).length ≤ n + 1
  | 0, v, l, a, i => by simp only [lns]; split <;> simp
  | n + 1, v, l, a, i => by
    simp only [lns]
    split
    · split <;> simp
    · split
      · have := lns_length n v (l.drop 1) a (i + 1); omega
      · have := lns_length n v (l.drop (brkW v l).toNat) (i + brkW v l) (i + brkW v l); simp only [List.length_cons]; omega

theorem Lines_l0 (v : Int) (s : ByteArray) (hs : s.size ≤ 140737488351232) (acc0 : Nat) (hacc : acc0 + s.size < 5864062014000) : ∀ (d k : Nat) (i : Nat) (a : Int) (acc : List S27), i ≤ s.size → s.size - i = d → d + 8 ≤ k → 0 ≤ a → a ≤ i → acc.length ≤ acc0 + i →
    brk_Lines.l0 k v s acc a i = some (acc ++ lns d v (s.data.toList.drop i) a i) := by
  intro d
  induction d using Nat.strongRecOn with
  | _ d ih =>
    intro k i a acc hi hd hk ha hai hl
    obtain ⟨k, rfl⟩ : ∃ m, k = m + 1 := ⟨k - 1, by omega⟩
    simp only [brk_Lines.l0]
    cases d with
    | zero =>
      rw [if_neg (by omega)]
      simp only [lns]
      by_cases h : a < (s.size : Int)
      · rw [if_pos h, if_pos (by omega), if_pos (by omega)]
        have : (s.size : Int) = i := by omega
        rw [this]
      · rw [if_neg h, if_neg (by omega), List.append_nil]
    | succ d =>
      have hlen : (s.data.toList.drop i).length = s.size - i := by rw [List.length_drop, ← Lib.size_eq]
      have hne : s.data.toList.drop i ≠ [] := by intro e; rw [e] at hlen; simp at hlen; omega
      have hb := brkW_range v (s.data.toList.drop i)
      rw [if_pos (by omega), Break_eq k (by omega), if_pos ⟨by omega, by omega⟩]
      simp only [Option.bind_some, Int.toNat_natCast, lns, if_neg hne]
      by_cases hw : brkW v (s.data.toList.drop i) = 0
      · rw [if_pos hw, if_pos hw, wrap_id (by omega) (by omega)]
        have := ih d (by omega) k (i + 1) a acc (by omega) (by omega) (by omega) ha (by omega) (by omega)
        rw [show ((i : Int) + 1) = ((i + 1 : Nat) : Int) by omega, this, List.drop_drop]
      · rw [if_neg hw, if_neg hw, if_pos (by omega), wrap_id (by omega) (by omega)]
        obtain ⟨w, hw'⟩ : ∃ w : Nat, brkW v (s.data.toList.drop i) = w := ⟨(brkW v (s.data.toList.drop i)).toNat, by omega⟩
        rw [hw'] at hb hw ⊢
        rw [hlen] at hb
        have := ih (d + 1 - w) (by omega) k (i + w) ((i + w : Nat) : Int) (acc ++ [⟨a, i, ((i + w : Nat) : Int)⟩]) (by omega) (by omega) (by omega) (by omega) (by omega) (by rw [List.length_append, List.length_singleton]; omega)
        rw [show ((i : Int) + (w : Int)) = ((i + w : Nat) : Int) by omega, this, List.append_assoc, List.singleton_append, Int.toNat_natCast, List.drop_drop]
        congr 3
        exact lns_enough _ _ _ _ _ _ (by rw [List.length_drop, ← Lib.size_eq]; omega) (by rw [List.length_drop, ← Lib.size_eq]; omega)

def lines (v : Int) (s : ByteArray) : List S27 := lns s.size v s.data.toList 0 0
theorem Lines_eq (v : Int) (s : ByteArray) (hs : s.size ≤ 1000000) (k : Nat) (hk : s.size + 8 ≤ k) : brk_Lines.f k v s = some (lines v s) := by
  unfold brk_Lines.f
  have := Lines_l0 v s (by omega) 0 (by omega) s.size k 0 0 [] (by omega) (by omega) hk (by omega) (by omega) (by simp)
  show brk_Lines.l0 k v s [] 0 ((0 : Nat) : Int) = _
  rw [this, List.drop_zero, List.nil_append]
  rfl
theorem lines_length (v : Int) (s : ByteArray) : (lines v s).length ≤ s.size + 1 := lns_length _ _ _ _ _

/-! ### two rows of lines held against one another -/
theorem rd_27 (xs : List S27) (i : Nat) (h : i < xs.length) : rd_T27 xs i = xs[i] := by
  unfold rd_T27
  rw [List.getD_eq_getElem?_getD, Int.toNat_natCast, List.getElem?_eq_getElem h]
  rfl
open Classical in
theorem hLines_l0 (xs ys : List S27) (hl : xs.length = ys.length) (hs : xs.length ≤ 100000000) : ∀ (d k i : Nat), i ≤ xs.length → xs.length - i = d → d + 1 ≤ k →
    targumhelp_Lines.l0 k xs ys i = some (decide (xs.drop i = ys.drop i)) := by
  intro d
  induction d with
  | zero =>
    intro k i hi hd hk
    obtain ⟨k, rfl⟩ : ∃ m, k = m + 1 := ⟨k - 1, by omega⟩
    simp only [targumhelp_Lines.l0]
    rw [if_neg (by omega), List.drop_of_length_le (by omega), List.drop_of_length_le (by omega)]
    simp
  | succ d ih =>
    intro k i hi hd hk
    obtain ⟨k, rfl⟩ : ∃ m, k = m + 1 := ⟨k - 1, by omega⟩
    simp only [targumhelp_Lines.l0]
    have h1 : i < xs.length := by omega
    have h2 : i < ys.length := by omega
    rw [if_pos (by omega), if_pos (by omega), if_pos (by omega), rd_27 xs i h1, rd_27 ys i h2, List.drop_eq_getElem_cons h1, List.drop_eq_getElem_cons h2]
    by_cases he : xs[i] = ys[i]
    · rw [he, if_neg (by simp), wrap_id (by omega) (by omega)]
      have := ih k (i + 1) (by omega) (by omega) (by omega)
      rw [show ((i : Int) + 1) = ((i + 1 : Nat) : Int) by omega, this]
      congr 1
      exact decide_eq_decide.2 ⟨fun h => by rw [h], fun h => (List.cons.inj h).2⟩
    · rw [if_pos]
      · congr 1
        exact (decide_eq_false (fun h => he (List.cons.inj h).1)).symm
      · generalize xs[i] = p at he
        generalize ys[i] = q at he
        obtain ⟨p0, p1, p2⟩ := p
        obtain ⟨q0, q1, q2⟩ := q
        simp only [S27.mk.injEq] at he
        simp
        omega
open Classical in
theorem hLines_eq (xs ys : List S27) (hs : xs.length ≤ 100000000) (k : Nat) (hk : xs.length + 1 ≤ k) : targumhelp_Lines.f k xs ys = some (decide (xs = ys)) := by
  unfold targumhelp_Lines.f
  by_cases h : xs.length = ys.length
  · rw [if_pos (by omega)]
    have := hLines_l0 xs ys h hs xs.length k 0 (by omega) (by omega) hk
    rw [show (0 : Int) = ((0 : Nat) : Int) from rfl, this, List.drop_zero, List.drop_zero]
  · rw [if_neg (by omega), decide_eq_false (fun e => h (by rw [e]))]
end Go.Proofs.YtkphlddgfmgogaaDoor.BrkFns
