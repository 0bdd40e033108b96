/- The pure law BrkVersions: each break of the new version is one of the old one; where no old one alone is, the lines are the same. No conditions. -/
import Derived.Test.YtkphlddgfmgogaaDoorBrkLines
import Derived.Test.YtkphlddgfmgogaaDoorPBx6
namespace Go.Proofs.YtkphlddgfmgogaaDoor.Pure
set_option linter.unusedSimpArgs false
set_option linter.unusedVariables false
open Go.RowKit Go.Proofs.YtkphlddgfmgogaaDoor.PB Go.Proofs.YtkphlddgfmgogaaDoorW.PrintWords Go.Proofs.YtkphlddgfmgogaaDoor.Aid Go.Proofs.YtkphlddgfmgogaaDoor.BrkFns

theorem known2 (k : Nat) (hk : 60 ≤ k) : targumlaw2_known.f k = some true := at_rounds targumlaw2_known.mono hk (by decide +kernel)

/-- the two versions at one place -/
theorem brk_both (l : List UInt8) : (brkW 12 l > 0 → brkW 11 l = brkW 12 l) ∧ (brkW 11 l > 0 → brkW 12 l = 0 → 2 ≤ brkW 11 l ∧ ba l 0 ≠ 10 ∧ ba l 0 ≠ 13) ∧ (brkW 12 l = 0 ∨ (brkW 12 l = 2 ∧ ba l 0 = 13 ∧ ba l 1 = 10) ∨ brkW 12 l = 1) := by
  have first : ∀ (c : UInt8) (r : List UInt8), (c :: r).isPrefixOf l = true → ba l 0 = c.toNat := fun c r h => by
    obtain ⟨t, rfl⟩ := List.isPrefixOf_iff_prefix.1 h
    rfl
  have two : ([13, 10] : List UInt8).isPrefixOf l = true → ba l 0 = 13 ∧ ba l 1 = 10 := fun h => by
    obtain ⟨t, rfl⟩ := List.isPrefixOf_iff_prefix.1 h
    exact ⟨rfl, rfl⟩
  have e12 : brkW 12 l = if ([13, 10] : List UInt8).isPrefixOf l = true then 2 else if ba l 0 = 13 ∨ ba l 0 = 10 then 1 else 0 := by
    unfold brkW
    rw [if_neg (by omega)]
    simp
  have e11 : brkW 11 l = if ([226, 128, 168] : List UInt8).isPrefixOf l = true ∨ ([226, 128, 169] : List UInt8).isPrefixOf l = true then 3 else if ([194, 133] : List UInt8).isPrefixOf l = true ∨ ([13, 10] : List UInt8).isPrefixOf l = true then 2 else if ba l 0 = 13 ∨ ba l 0 = 10 then 1 else 0 := by
    unfold brkW
    simp
  have fin : ∀ (x : UInt8) (w : Int), 2 ≤ w → ba l 0 = x.toNat → (x.toNat : Int) ≠ 10 → (x.toNat : Int) ≠ 13 → brkW 11 l = w → brkW 12 l = 0 →
      (brkW 12 l > 0 → brkW 11 l = brkW 12 l) ∧ (brkW 11 l > 0 → brkW 12 l = 0 → 2 ≤ brkW 11 l ∧ ba l 0 ≠ 10 ∧ ba l 0 ≠ 13) ∧ (brkW 12 l = 0 ∨ (brkW 12 l = 2 ∧ ba l 0 = 13 ∧ ba l 1 = 10) ∨ brkW 12 l = 1) := fun x w hw hx n10 n13 v11 v12 => by
    rw [v11, v12, hx]
    exact ⟨by omega, fun _ _ => ⟨hw, n10, n13⟩, .inl rfl⟩
  have no12 : ∀ x : UInt8, ba l 0 = x.toNat → (x.toNat : Int) ≠ 10 → (x.toNat : Int) ≠ 13 → brkW 12 l = 0 := fun x hx n10 n13 => by
    rw [e12, if_neg, if_neg (by omega)]
    intro h
    have := two h
    omega
  by_cases h1 : ([226, 128, 168] : List UInt8).isPrefixOf l = true
  · have hx := first _ _ h1
    exact fin 226 3 (by omega) hx (by decide) (by decide) (by rw [e11, if_pos (Or.inl h1)]) (no12 226 hx (by decide) (by decide))
  · by_cases h2 : ([226, 128, 169] : List UInt8).isPrefixOf l = true
    · have hx := first _ _ h2
      exact fin 226 3 (by omega) hx (by decide) (by decide) (by rw [e11, if_pos (Or.inr h2)]) (no12 226 hx (by decide) (by decide))
    · have hn : ¬ (([226, 128, 168] : List UInt8).isPrefixOf l = true ∨ ([226, 128, 169] : List UInt8).isPrefixOf l = true) := fun h => h.elim h1 h2
      by_cases h3 : ([194, 133] : List UInt8).isPrefixOf l = true
      · have hx := first _ _ h3
        exact fin 194 2 (by omega) hx (by decide) (by decide) (by rw [e11, if_neg hn, if_pos (Or.inl h3)]) (no12 194 hx (by decide) (by decide))
      · rw [e11, e12, if_neg hn]
        by_cases h4 : ([13, 10] : List UInt8).isPrefixOf l = true
        · have := two h4
          rw [if_pos (Or.inr h4 : ([194, 133] : List UInt8).isPrefixOf l = true ∨ _), if_pos h4]
          omega
        · have hn2 : ¬ (([194, 133] : List UInt8).isPrefixOf l = true ∨ ([13, 10] : List UInt8).isPrefixOf l = true) := fun h => h.elim h3 h4
          rw [if_neg hn2, if_neg h4]
          split <;> omega

/-- does an old break stand here that is no new one? -/
def odd (l : List UInt8) : Bool := decide (brkW 11 l > 0 ∧ brkW 12 l = 0)
def anyOdd : Nat → List UInt8 → Bool
  | 0, _ => false
  | n + 1, l => if l = [] then false else odd l || anyOdd n (l.drop 1)
theorem anyOdd_enough : ∀ (n m : Nat) (l : List UInt8), l.length ≤ n → l.length ≤ m → anyOdd n l = anyOdd m l
  | 0, 0, _, _, _ => rfl
  | 0, m + 1, l, h, _ => by
    have : l = [] := List.length_eq_zero_iff.1 (by omega)
    subst this; simp [anyOdd]
  | n + 1, 0, l, _, h => by
    have : l = [] := List.length_eq_zero_iff.1 (by omega)
    subst this; simp [anyOdd]
  | n + 1, m + 1, l, h, h' => by
    simp only [anyOdd]
    split
    · rfl
    · rename_i hl
      have := List.length_pos_iff.2 hl
      rw [anyOdd_enough n m (l.drop 1) (by rw [List.length_drop]; omega) (by rw [List.length_drop]; omega)]

theorem lns_ends : ∀ (n : Nat) (v : Int) (l : List UInt8) (a i : Int), a ≤ i → a < i ∨ l ≠ [] → l.length ≤ n → ∃ e r, lns n v l a i = e :: r ∧ i ≤ e.f1
  | 0, v, l, a, i, _, h, hn => by
    have : l = [] := List.length_eq_zero_iff.1 (by omega)
    refine ⟨⟨a, i, i⟩, [], ?_, Int.le_refl _⟩
    simp only [lns]
    rw [if_pos (h.resolve_right (fun c => c this))]
  | n + 1, v, l, a, i, ha, h, hn => by
    simp only [lns]
    by_cases hl : l = []
    · rw [if_pos hl, if_pos (h.resolve_right (fun c => c hl))]
      exact ⟨_, _, rfl, Int.le_refl _⟩
    · have hp := List.length_pos_iff.2 hl
      rw [if_neg hl]
      by_cases hw : brkW v l = 0
      · rw [if_pos hw]
        obtain ⟨e, r, he, hi⟩ := lns_ends n v (l.drop 1) a (i + 1) (by omega) (.inl (by omega)) (by rw [List.length_drop]; omega)
        exact ⟨e, r, he, by omega⟩
      · rw [if_neg hw]
        exact ⟨_, _, rfl, Int.le_refl _⟩

theorem lns_same : ∀ (n : Nat) (l : List UInt8) (a i : Int), a ≤ i → l.length ≤ n → (lns n 11 l a i = lns n 12 l a i ↔ anyOdd n l = false)
  | 0, l, a, i, _, _ => by simp [lns, anyOdd]
  | n + 1, l, a, i, ha, hn => by
    by_cases hl : l = []
    · subst hl; simp [lns, anyOdd]
    · have hp := List.length_pos_iff.2 hl
      obtain ⟨b1, b2, b3⟩ := brk_both l
      have r11 := brkW_range 11 l
      have r12 := brkW_range 12 l
      simp only [lns, anyOdd, if_neg hl]
      by_cases h12 : brkW 12 l = 0
      · by_cases h11 : brkW 11 l = 0
        · have : odd l = false := decide_eq_false (by omega)
          rw [if_pos h11, if_pos h12, this, Bool.false_or]
          exact lns_same n (l.drop 1) a (i + 1) (by omega) (by rw [List.length_drop]; omega)
        · have : odd l = true := decide_eq_true (by omega)
          rw [if_neg h11, if_pos h12, this]
          simp only [Bool.true_or, Bool.true_eq_false, iff_false]
          obtain ⟨e, r, he, hi⟩ := lns_ends n 12 (l.drop 1) a (i + 1) (by omega) (.inl (by omega)) (by rw [List.length_drop]; omega)
          rw [he]
          intro hc
          have := (List.cons.inj hc).1
          rw [← this] at hi
          simp only at hi
          omega
      · have h := b1 (by omega)
        have ho : odd l = false := decide_eq_false (by omega)
        rw [if_neg h12, if_neg (by omega), h, ho, Bool.false_or]
        have ih := lns_same n (l.drop (brkW 12 l).toNat) (i + brkW 12 l) (i + brkW 12 l) (by omega) (by rw [List.length_drop]; omega)
        have step : anyOdd n (l.drop 1) = anyOdd n (l.drop (brkW 12 l).toNat) := by
          rcases b3 with b3 | b3 | b3
          · exact absurd b3 h12
          · rw [b3.1]
            show anyOdd n (l.drop 1) = anyOdd n (l.drop 2)
            have h2 : 2 ≤ l.length := by omega
            have hne : l.drop 1 ≠ [] := by intro e; have := congrArg List.length e; rw [List.length_drop] at this; simp at this; omega
            have hod : odd (l.drop 1) = false := by
              have hb0 : ba (l.drop 1) 0 = 10 := by rw [ba_drop]; exact b3.2.2
              have := (brk_both (l.drop 1)).2.1
              exact decide_eq_false (fun hc => (this hc.1 hc.2).2.1 hb0)
            rw [anyOdd_enough n (l.length + 1) (l.drop 1) (by rw [List.length_drop]; omega) (by rw [List.length_drop]; omega)]
            simp only [anyOdd, if_neg hne, hod, Bool.false_or, List.drop_drop]
            exact anyOdd_enough _ _ _ (by rw [List.length_drop]; omega) (by rw [List.length_drop]; omega)
          · rw [b3]; rfl
        rw [step, ← ih]
        exact ⟨fun hc => (List.cons.inj hc).2, fun hc => by rw [hc]⟩

open Classical in
theorem loop (s : ByteArray) (hs : s.size ≤ 300) : ∀ (d k i : Nat) (more : Bool), i ≤ s.size → s.size - i = d → d + 400 ≤ k →
    targumlaw2_BrkVersions.l0 k s more i = some (decide (lines 11 s = lines 12 s) == !(more || anyOdd d (s.data.toList.drop i))) := by
  intro d
  induction d with
  | zero =>
    intro k i more hi hd hk
    obtain ⟨k, rfl⟩ : ∃ m, k = m + 1 := ⟨k - 1, by omega⟩
    simp only [targumlaw2_BrkVersions.l0]
    have := lines_length 11 s
    rw [if_neg (by omega), Lines_eq 11 s (by omega) k (by omega), Lines_eq 12 s (by omega) k (by omega)]
    simp only [Option.bind_some]
    rw [hLines_eq _ _ (by omega) k (by omega)]
    simp [anyOdd]
  | succ d ih =>
    intro k i more hi hd hk
    obtain ⟨k, rfl⟩ : ∃ m, k = m + 1 := ⟨k - 1, by omega⟩
    have hlen : (s.data.toList.drop i).length = s.size - i := by rw [List.length_drop, ← Lib.size_eq]
    have hne : s.data.toList.drop i ≠ [] := by intro e; rw [e] at hlen; simp at hlen; omega
    obtain ⟨b1, b2, b3⟩ := brk_both (s.data.toList.drop i)
    have r11 := brkW_range 11 (s.data.toList.drop i)
    have r12 := brkW_range 12 (s.data.toList.drop i)
    have step : targumlaw2_BrkVersions.l0 (k + 1) s more i = targumlaw2_BrkVersions.l0 k s (more || odd (s.data.toList.drop i)) ((i + 1 : Nat) : Int) := by
      simp only [targumlaw2_BrkVersions.l0]
      rw [if_pos (by omega), Break_eq k (by omega), Break_eq k (by omega), if_pos ⟨by omega, by omega⟩, if_pos ⟨by omega, by omega⟩]
      simp only [Option.bind_some, Int.toNat_natCast]
      rw [wrap_id (by omega) (by omega), show ((i : Int) + 1) = ((i + 1 : Nat) : Int) by omega]
      unfold odd
      generalize hx : brkW 11 (s.data.toList.drop i) = x at *
      generalize hy : brkW 12 (s.data.toList.drop i) = y at *
      by_cases y0 : y > 0
      · have e := b1 y0
        rw [if_pos y0, if_pos e, if_pos (by omega), if_neg (by omega), decide_eq_false (by omega), Bool.or_false]
        have : (y == 0) = false := beq_eq_false_iff_ne.2 (by omega)
        rw [this]
        cases more <;> rfl
      · rw [if_neg y0]
        have e : y = 0 := by omega
        by_cases x0 : x > 0
        · rw [if_pos x0, if_pos e, if_neg (by omega), decide_eq_true ⟨x0, e⟩, Bool.or_true, e]
          cases more <;> rfl
        · rw [if_neg x0, decide_eq_false (by omega), Bool.or_false]
          cases more <;> rfl
    rw [step, ih k (i + 1) _ (by omega) (by omega) (by omega)]
    simp only [anyOdd, if_neg hne, List.drop_drop, Bool.or_assoc]

theorem BrkVersions : targumlaw2_BrkVersions.Pure := by
  intro s hs
  refine ⟨1000, ?_⟩
  unfold targumlaw2_BrkVersions.f
  rw [known2 _ (by omega)]
  simp only [Option.bind_some, if_true]
  by_cases h : (s.size : Int) > 300
  · rw [if_pos h]
  · rw [if_neg h]
    have := loop s (by omega) s.size 1000 0 false (by omega) (by omega) (by omega)
    show targumlaw2_BrkVersions.l0 1000 s false ((0 : Nat) : Int) = _
    rw [this, List.drop_zero, Bool.false_or]
    congr 1
    have hs' := lns_same s.size s.data.toList 0 0 (by omega) (by rw [← Lib.size_eq]; omega)
    change lines 11 s = lines 12 s ↔ _ at hs'
    cases ho : anyOdd s.size s.data.toList
    · rw [ho] at hs'; simp [hs'.2 rfl]
    · rw [ho] at hs'; simp; exact fun hc => by have := hs'.1 hc; cases this
end Go.Proofs.YtkphlddgfmgogaaDoor.Pure
