/- The pure law BrkWhole: lines are all of a text, one behind the other; none but the last one is without a break; a line has none within. No conditions. -/
import Derived.Test.YtkphlddgfmgogaaDoorBrkLines
import Derived.Test.YtkphlddgfmgogaaDoorPWx7
namespace Go.Proofs.YtkphlddgfmgogaaDoor.Pure
set_option linter.unusedSimpArgs false
set_option linter.unusedVariables false
open Go.RowKit Go.Proofs.YtkphlddgfmgogaaDoor.PW Go.Proofs.YtkphlddgfmgogaaDoorW.PrintWords Go.Proofs.YtkphlddgfmgogaaDoor.Aid Go.Proofs.YtkphlddgfmgogaaDoor.BrkFns

theorem known2 (k : Nat) (hk : 60 ≤ k) : targumlaw2_known.f k = some true := at_rounds targumlaw2_known.mono hk (by decide +kernel)

/-- the break at byte k of a text -/
def brkAt (v : Int) (s : ByteArray) (k : Int) : Int := if 0 ≤ k ∧ k < s.size then brkW v (s.data.toList.drop k.toNat) else 0
/-- lines that are all of a text from byte a on -/
def chain (v : Int) (s : ByteArray) : Int → List S27 → Prop
  | a, [] => a = s.size
  | a, x :: r => x.f0 = a ∧ 0 ≤ a ∧ a ≤ x.f1 ∧ x.f1 ≤ x.f2 ∧ x.f2 ≤ s.size ∧ (x.f2 = x.f1 → r = []) ∧ x.f2 - x.f1 = brkAt v s x.f1 ∧ (∀ k, a ≤ k → k < x.f1 → brkAt v s k = 0) ∧ x.f0 < s.size ∧ chain v s x.f2 r

theorem lns_chain (v : Int) (s : ByteArray) : ∀ (d i : Nat) (a : Int), i ≤ s.size → s.size - i = d → 0 ≤ a → a ≤ i → (∀ k : Int, a ≤ k → k < i → brkAt v s k = 0) → chain v s a (lns d v (s.data.toList.drop i) a i) := by
  intro d
  induction d using Nat.strongRecOn with
  | _ d ih =>
    intro i a hi hd ha hai hk
    cases d with
    | zero =>
      simp only [lns]
      have e : (s.size : Int) = i := by omega
      by_cases h : a < (i : Int)
      · rw [if_pos h]
        refine ⟨rfl, ha, hai, Int.le_refl _, by simp only; omega, fun _ => rfl, ?_, hk, by simp only; omega, ?_⟩
        · simp only
          unfold brkAt
          rw [if_neg (by omega)]
          omega
        · simp only [chain]; omega
      · rw [if_neg h]
        simp only [chain]
        omega
    | succ d =>
      have hlen : (s.data.toList.drop i).length = s.size - i := by rw [List.length_drop, ← Lib.size_eq]
      have hne : s.data.toList.drop i ≠ [] := by intro e; rw [e] at hlen; simp at hlen; omega
      have hb := brkW_range v (s.data.toList.drop i)
      have hat : brkAt v s i = brkW v (s.data.toList.drop i) := by
        unfold brkAt
        rw [if_pos ⟨by omega, by omega⟩, Int.toNat_natCast]
      simp only [lns, if_neg hne]
      by_cases hw : brkW v (s.data.toList.drop i) = 0
      · rw [if_pos hw, List.drop_drop]
        have := ih d (by omega) (i + 1) a (by omega) (by omega) ha (by omega) (fun k h1 h2 => by
          by_cases hki : k < (i : Int)
          · exact hk k h1 hki
          · have : k = (i : Int) := by omega
            rw [this, hat, hw])
        rw [show (((i + 1 : Nat)) : Int) = (i : Int) + 1 by omega] at this
        exact this
      · rw [if_neg hw]
        rw [hlen] at hb
        obtain ⟨w, hw'⟩ : ∃ w : Nat, brkW v (s.data.toList.drop i) = w := ⟨(brkW v (s.data.toList.drop i)).toNat, by omega⟩
        rw [hw'] at hb hw hat ⊢
        rw [Int.toNat_natCast, List.drop_drop]
        have h2 := ih (d + 1 - w) (by omega) (i + w) ((i + w : Nat) : Int) (by omega) (by omega) (by omega) (by omega) (fun k h1 h2 => by omega)
        rw [lns_enough (d + 1 - w) d v (s.data.toList.drop (i + w)) _ _ (by rw [List.length_drop, ← Lib.size_eq]; omega) (by rw [List.length_drop, ← Lib.size_eq]; omega)] at h2
        rw [show (((i + w : Nat)) : Int) = (i : Int) + w by omega] at h2
        refine ⟨rfl, ha, hai, by simp only; omega, by simp only; omega, fun h => absurd h (by simp only; omega), ?_, hk, by simp only; omega, h2⟩
        simp only
        rw [hat]
        omega

theorem chain_first (v : Int) (s : ByteArray) : ∀ (L : List S27) (a : Int), chain v s a L → ∀ x ∈ L, x.f0 < s.size
  | [], _, _, x, hx => by cases hx
  | y :: r, a, h, x, hx => by
    rcases List.mem_cons.1 hx with rfl | hx
    · exact h.2.2.2.2.2.2.2.2.1
    · exact chain_first v s r _ h.2.2.2.2.2.2.2.2.2 x hx

theorem inner (v : Int) (s : ByteArray) (hs : s.size ≤ 300) (L : List S27) (j : Nat) (hj : j < L.length) (K : Nat) (R : Option Bool)
    (hx : L[j].f1 ≤ s.size) (hrest : ∀ k, K ≤ k → targumlaw2_BrkWhole.l0 k s v L L[j].f2 (wrap64 ((j : Int) + 1)) = R) :
    ∀ (d k : Nat) (i : Int), 0 ≤ i → (L[j].f1 - i).toNat = d → d + K + 6 ≤ k → (∀ q, i ≤ q → q < L[j].f1 → brkAt v s q = 0) → targumlaw2_BrkWhole.l1 k s v L j i = R := by
  intro d
  induction d with
  | zero =>
    intro k i h0 hd hk hq
    obtain ⟨k, rfl⟩ : ∃ m, k = m + 1 := ⟨k - 1, by omega⟩
    simp only [targumlaw2_BrkWhole.l1]
    rw [if_pos (by omega), if_pos (by omega), rd_27 L j hj, if_neg (by omega)]
    exact hrest k (by omega)
  | succ d ih =>
    intro k i h0 hd hk hq
    obtain ⟨k, rfl⟩ : ∃ m, k = m + 1 := ⟨k - 1, by omega⟩
    simp only [targumlaw2_BrkWhole.l1]
    rw [if_pos (by omega), if_pos (by omega), rd_27 L j hj, if_pos (by omega), Break_eq k (by omega)]
    have hb := hq i (Int.le_refl _) (by omega)
    unfold brkAt at hb
    rw [hb]
    simp only [Option.bind_some, if_true]
    rw [wrap_id (by omega) (by omega)]
    exact ih k (i + 1) (by omega) (by omega) (by omega) (fun q h1 h2 => hq q (by omega) h2)

theorem outer (v : Int) (s : ByteArray) (hs : s.size ≤ 300) (L : List S27) (hL : L.length ≤ 301) (hfirst : ∀ x ∈ L, x.f0 < s.size) :
    ∀ (d k j : Nat) (a : Int), j ≤ L.length → L.length - j = d → 400 * (d + 1) ≤ k → chain v s a (L.drop j) → targumlaw2_BrkWhole.l0 k s v L a j = some true := by
  intro d
  induction d with
  | zero =>
    intro k j a hj hd hk hc
    obtain ⟨k, rfl⟩ : ∃ m, k = m + 1 := ⟨k - 1, by omega⟩
    rw [List.drop_of_length_le (by omega)] at hc
    simp only [chain] at hc
    simp only [targumlaw2_BrkWhole.l0]
    rw [if_neg (by omega), if_pos hc]
    by_cases h0 : (L.length : Int) = 0
    · rw [if_pos h0]
    · have hl : L.length - 1 < L.length := by omega
      rw [if_neg h0, wrap_id (by omega) (by omega), show ((L.length : Int) - 1) = ((L.length - 1 : Nat) : Int) by omega, if_pos (by omega), if_pos (by omega), rd_27 L _ hl]
      rw [decide_eq_true (hfirst _ (List.getElem_mem hl))]
  | succ d ih =>
    intro k j a hj hd hk hc
    have hk1 : 400 * (d + 1) + 400 ≤ k := by omega
    clear hk
    generalize 400 * (d + 1) = K at hk1 ih
    obtain ⟨k, rfl⟩ : ∃ m, k = m + 2 := ⟨k - 2, by omega⟩
    have hlt : j < L.length := by omega
    rw [List.drop_eq_getElem_cons hlt] at hc
    obtain ⟨c0, ca, c1, c2, c3, c4, c5, c6, c7, c8⟩ := hc
    have rest : ∀ q, K ≤ q → targumlaw2_BrkWhole.l0 q s v L L[j].f2 (wrap64 ((j : Int) + 1)) = some true := fun q hq => by
      rw [wrap_id (by omega) (by omega)]
      have := ih q (j + 1) L[j].f2 (by omega) (by omega) hq c8
      rw [show (((j + 1 : Nat)) : Int) = (j : Int) + 1 by omega] at this
      exact this
    have go : targumlaw2_BrkWhole.j1 (k + 1) s v L j false = some true := by
      rw [targumlaw2_BrkWhole.j1, if_neg (by decide), if_pos (by omega), if_pos (by omega), rd_27 L j hlt]
      have hkk : (L[j].f1 - L[j].f0).toNat + K + 6 ≤ k := by omega
      exact inner v s hs L j hlt K (some true) (by omega) rest _ k L[j].f0 (by omega) (Eq.refl _) (hkk) (fun q h1 h2 => c6 q (by omega) h2)
    have hbk : brk_Break.f (k + 1) v s L[j].f1 = some (L[j].f2 - L[j].f1) := by
      rw [Break_eq _ (by omega)]
      unfold brkAt at c5
      rw [c5]
    simp only [targumlaw2_BrkWhole.l0]
    rw [if_pos (by omega), if_pos (by omega), rd_27 L j hlt, if_pos c0, if_neg (by omega), if_neg (by omega), if_neg (by omega), hbk]
    simp only [Option.bind_some]
    have hw : wrap64 (L[j].f2 - L[j].f1) = L[j].f2 - L[j].f1 := wrap_id (by omega) (by omega)
    rw [hw, bne_self_eq_false, go]
    by_cases he : L[j].f2 = L[j].f1
    · have hr := congrArg List.length (c4 he)
      rw [List.length_drop] at hr
      simp only [List.length_nil] at hr
      rw [if_pos he, wrap_id (by omega) (by omega), if_neg (by omega)]
    · rw [if_neg he]

theorem BrkWhole : targumlaw2_BrkWhole.Pure := by
  intro s old hs
  suffices hk : ∀ k, 200000 ≤ k → targumlaw2_BrkWhole.f k s old = some true from ⟨_, hk 200000 (Nat.le_refl _)⟩
  intro k hk
  unfold targumlaw2_BrkWhole.f
  rw [known2 _ (by omega)]
  simp only [Option.bind_some, if_true]
  by_cases h : (s.size : Int) > 300
  · rw [if_pos h]
  · rw [if_neg h]
    obtain ⟨v, hv⟩ : ∃ v, targumhelp_Version.f old = some v := by unfold targumhelp_Version.f; split <;> exact ⟨_, rfl⟩
    rw [hv]
    simp only [Option.bind_some]
    rw [Lines_eq v s (by omega) _ (by omega)]
    simp only [Option.bind_some]
    have hc := lns_chain v s s.size 0 0 (by omega) (by omega) (by omega) (by omega) (fun k h1 h2 => by omega)
    rw [List.drop_zero] at hc
    have hl := lines_length v s
    exact outer v s (by omega) (lines v s) (by omega) (chain_first v s _ _ hc) (lines v s).length k 0 0 (by omega) (by omega) (by omega) (by rw [List.drop_zero]; exact hc)
end Go.Proofs.YtkphlddgfmgogaaDoor.Pure
