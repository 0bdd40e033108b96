/- UtfSizes in plain words. -/
import Derived.Test.YtmpdggphhhljhaaDoorUtfSpec12
import Derived.Test.YtmpdggphhhljhaaDoorPZx7
namespace Go.Proofs.YtmpdggphhhljhaaDoor.Pure
set_option linter.unusedSimpArgs false
set_option linter.unusedVariables false
open Go.RowKit Go.Proofs.YtmpdggphhhljhaaDoor.PZ Go.Proofs.YtmpdggphhhljhaaDoorW.PrintWords Go.Proofs.YtmpdggphhhljhaaDoor.Aid Go.Proofs.YtmpdggphhhljhaaDoor.BrkFns Go.Proofs.YtmpdggphhhljhaaDoor.UtfSpec
theorem app_text (e : Int) (r : List UInt8) (hr : well r = true) : ∀ (n : Nat) (l : List UInt8), l.length ≤ n → well l = true → well (l ++ r) = true ∧ encT e (l ++ r) = encT e l ++ encT e r
  | 0, l, hn, hw => by
    have : l = [] := List.length_eq_zero_iff.1 (by omega)
    subst this
    exact ⟨hr, rfl⟩
  | n + 1, l, hn, hw => by
    by_cases hne : l = []
    · subst hne; exact ⟨hr, rfl⟩
    have hpos : 0 < l.length := List.length_pos_iff.2 hne
    obtain ⟨h0, hw2⟩ := well_step hw hne
    have hwd := nx_width l
    obtain ⟨i1, i2⟩ := app_text e r hr n (l.drop (nx l).2) (by rw [List.length_drop]; omega) hw2
    have hnx := nx_append r h0
    have hlen : (l.take (nx l).2).length = (nx l).2 := by rw [List.length_take]; omega
    have hsplit : l ++ r = l.take (nx l).2 ++ (l.drop (nx l).2 ++ r) := by rw [← List.append_assoc, List.take_append_drop]
    have hw3 : well (l ++ r) = true := by
      rw [hsplit]
      exact well_cons (l.drop (nx l).2 ++ r) (nx l).2 h0 (nx l).1 (by rw [← hsplit, hnx]) hlen i1
    have hne2 : l ++ r ≠ [] := by
      intro q; have := congrArg List.length q; rw [List.length_append, List.length_nil] at this; omega
    refine ⟨hw3, ?_⟩
    rw [encT_cons e hw3 hne2, encT_cons e hw hne, hnx, List.drop_append_of_le_length (by omega), i2, List.append_assoc]
def cntL : Nat → List UInt8 → Nat
  | 0, _ => 0
  | d + 1, l => if l = [] then 0 else 1 + cntL d (l.drop (nx l).2)
theorem cnt_le : ∀ (d : Nat) (l : List UInt8), cntL d l ≤ d
  | 0, _ => Nat.le_refl 0
  | d + 1, l => by
    simp only [cntL]
    split
    · omega
    · have := cnt_le d (l.drop (nx l).2); omega
theorem len45 (e : Int) (he : e = 4 ∨ e = 5) : ∀ (d : Nat) (l : List UInt8), (encL e d l).length = 4 * cntL d l
  | 0, _ => rfl
  | d + 1, l => by
    simp only [encL, cntL]
    by_cases h : l = []
    · rw [if_pos h, if_pos h]; rfl
    · have : (encU e ((nx l).1 : Int)).length = 4 := by unfold encU; rw [if_neg (by omega), if_neg (by omega), b4_len]
      rw [if_neg h, if_neg h, List.length_append, this, len45 e he d]; omega
theorem len23 : ∀ (d : Nat) (l : List UInt8), (encL 3 d l).length = (encL 2 d l).length ∧ 2 * cntL d l ≤ (encL 2 d l).length ∧ (encL 2 d l).length ≤ 4 * cntL d l
  | 0, _ => ⟨rfl, Nat.le_refl 0, Nat.le_refl 0⟩
  | d + 1, l => by
    simp only [encL, cntL]
    by_cases h : l = []
    · rw [if_pos h, if_pos h, if_pos h]; exact ⟨rfl, Nat.le_refl 0, Nat.le_refl 0⟩
    · obtain ⟨i1, i2, i3⟩ := len23 d (l.drop (nx l).2)
      have e2 : (encU 2 ((nx l).1 : Int)).length = 2 ∨ (encU 2 ((nx l).1 : Int)).length = 4 := by
        unfold encU
        rw [if_neg (by omega), if_pos (by omega)]
        split
        · rw [List.length_append, b2_len, b2_len]; omega
        · rw [b2_len]; omega
      have e3 : (encU 3 ((nx l).1 : Int)).length = (encU 2 ((nx l).1 : Int)).length := by
        obtain ⟨c, hc⟩ : ∃ c : Int, ((nx l).1 : Int) = c := ⟨_, rfl⟩
        rw [hc]
        show (if 65536 ≤ c then b2 true (55296 + (c - 65536) / 1024) ++ b2 true (56320 + (c - 65536) % 1024) else b2 true c).length = (if 65536 ≤ c then b2 false (55296 + (c - 65536) / 1024) ++ b2 false (56320 + (c - 65536) % 1024) else b2 false c).length
        split
        · rw [List.length_append, List.length_append, b2_len, b2_len, b2_len, b2_len]
        · rw [b2_len, b2_len]
      rw [if_neg h, if_neg h, if_neg h, List.length_append, List.length_append]
      omega
theorem sizes_l0 (x0 x1 S : ByteArray) (hz : S.size ≤ 1000) (B : Nat) : ∀ (d pos k : Nat) (n : Int), 0 ≤ n ∧ n ≤ pos → S.size - pos ≤ d → pos ≤ S.size → B + d < k → well (S.data.toList.drop pos) = true → (∀ k', B ≤ k' → targumlaw1_UtfSizes.l1 k' x0 x1 (n + (cntL d (S.data.toList.drop pos) : Int)) 1 = some true) → targumlaw1_UtfSizes.l0 k x0 x1 n S (pos : Int) = some true := by
  intro d
  induction d with
  | zero =>
    intro pos k n hn hd hp hk hw H
    obtain ⟨k, rfl⟩ : ∃ j, k = j + 1 := ⟨k - 1, by omega⟩
    simp only [targumlaw1_UtfSizes.l0]
    rw [if_neg (by omega)]
    have := H k (by omega)
    simp only [cntL] at this
    rw [show n + ((0 : Nat) : Int) = n by omega] at this
    exact this
  | succ d ih =>
    intro pos k n hn hd hp hk hw H
    obtain ⟨k, rfl⟩ : ∃ j, k = j + 1 := ⟨k - 1, by omega⟩
    simp only [targumlaw1_UtfSizes.l0]
    by_cases hlt : pos < S.size
    · have hne : S.data.toList.drop pos ≠ [] := by
        intro q; have := congrArg List.length q; rw [List.length_drop, ← Lib.size_eq, List.length_nil] at this; omega
      obtain ⟨h0, hw2⟩ := well_step hw hne
      have hwd := nx_width (S.data.toList.drop pos)
      rw [List.length_drop, ← Lib.size_eq] at hwd
      have hdec := decode_nx S pos hlt h0
      rw [List.drop_drop] at hw2
      simp only [cntL, if_neg hne] at H
      rw [List.drop_drop] at H
      rw [if_pos (by omega), Int.toNat_natCast, hdec, wrap_id (by omega) (by omega)]
      have := ih (pos + (nx (S.data.toList.drop pos)).2) k (n + 1) (by omega) (by omega) (by omega) (by omega) hw2 (fun k' hk' => by
        have := H k' hk'
        rw [show n + ((1 + cntL d (S.data.toList.drop (pos + (nx (S.data.toList.drop pos)).2)) : Nat) : Int) = n + 1 + (cntL d (S.data.toList.drop (pos + (nx (S.data.toList.drop pos)).2)) : Int) by omega] at this
        exact this)
      rw [show ((pos + (nx (S.data.toList.drop pos)).2 : Nat) : Int) = (pos : Int) + ((nx (S.data.toList.drop pos)).2 : Int) by omega] at this
      exact this
    · have hnil : S.data.toList.drop pos = [] := List.drop_eq_nil_of_le (by rw [← Lib.size_eq]; omega)
      rw [if_neg (by omega)]
      have := H k (by omega)
      rw [hnil] at this
      simp only [cntL, if_true] at this
      rw [show n + ((0 : Nat) : Int) = n by omega] at this
      exact this
theorem UtfSizes : targumlaw1_UtfSizes.Pure := by
  intro s t hs ht
  obtain ⟨K, hK⟩ : ∃ K, K = 5000 := ⟨_, rfl⟩
  refine ⟨K + 1, ?_⟩
  unfold targumlaw1_UtfSizes.f
  rw [known1 _ (by omega), Option.bind_some, if_pos rfl]
  have J : targumlaw1_UtfSizes.j0 (K + 1) s t true = some true := by simp only [targumlaw1_UtfSizes.j0, if_true]
  by_cases h1 : (s.size : Int) > 300
  · rw [if_pos h1]; exact J
  rw [if_neg h1]
  by_cases h2 : (t.size : Int) > 300
  · rw [if_pos h2]; exact J
  rw [if_neg h2, Well_eq s hs (K + 1) (by omega), Option.bind_some]
  by_cases hw : well s.data.toList = true
  case neg => rw [if_neg hw]; exact J
  rw [if_pos hw, Well_eq t ht (K + 1) (by omega), Option.bind_some]
  by_cases hv : well t.data.toList = true
  case neg => rw [show well t.data.toList = false by simpa using hv]; exact J
  rw [hv]
  show targumlaw1_UtfSizes.j0 (K + 1) s t false = some true
  simp only [targumlaw1_UtfSizes.j0]
  have big : s.size + t.size ≤ 9223372036854775807 := Nat.le_trans (show s.size + t.size ≤ 600 by omega) (by decide)
  rw [if_neg (by decide), if_pos big]
  have hst : (s ++ t).size = s.size + t.size := ByteArray.size_append
  have hwst : well (s ++ t).data.toList = true := by rw [append_list]; exact (app_text 1 _ hv _ _ (Nat.le_refl _) hw).1
  have est : ∀ e, encT e (s ++ t).data.toList = encT e s.data.toList ++ encT e t.data.toList := fun e => by rw [append_list]; exact (app_text e _ hv _ _ (Nat.le_refl _) hw).2
  have sz : ∀ (k : Nat) (e : Int), 1 ≤ e ∧ e ≤ 5 → 4000 ≤ k → utf_Size.f k e s = some ((encT e s.data.toList).length : Int) := fun k e he hk => by rw [Size_eq k e s (by omega) (by omega) he, encS_T e he s hw]
  have tz : ∀ (k : Nat) (e : Int), 1 ≤ e ∧ e ≤ 5 → 4000 ≤ k → utf_Size.f k e t = some ((encT e t.data.toList).length : Int) := fun k e he hk => by rw [Size_eq k e t (by omega) (by omega) he, encS_T e he t hv]
  have bz : ∀ (k : Nat) (e : Int), 1 ≤ e ∧ e ≤ 5 → 4000 ≤ k → utf_Size.f k e (s ++ t) = some ((encT e (s ++ t).data.toList).length : Int) := fun k e he hk => by rw [Size_eq k e (s ++ t) (by omega) (by omega) he, encS_T e he _ hwst]
  have en : ∀ (k : Nat) (e : Int), 1 ≤ e ∧ e ≤ 5 → 4000 ≤ k → utf_Encode.f k e s = some (encT e s.data.toList) := fun k e he hk => by rw [Encode_eq k e s (by omega) (by omega), encS_T e he s hw]
  have ls : ∀ e, (encT e s.data.toList).length ≤ 4 * s.size := fun e => by rw [Lib.size_eq]; exact encL_len4 e _ _
  have lt : ∀ e, (encT e t.data.toList).length ≤ 4 * t.size := fun e => by rw [Lib.size_eq]; exact encL_len4 e _ _
  obtain ⟨n, hn⟩ : ∃ n, cntL (s ++ t).data.toList.length (s ++ t).data.toList = n := ⟨_, rfl⟩
  have hn600 : n ≤ 600 := by
    have := cnt_le (s ++ t).data.toList.length (s ++ t).data.toList
    rw [hn, ← Lib.size_eq, hst] at this; omega
  have q4 : (encT 4 (s ++ t).data.toList).length = 4 * n := by rw [← hn]; exact len45 4 (.inl rfl) _ _
  have q5 : (encT 5 (s ++ t).data.toList).length = 4 * n := by rw [← hn]; exact len45 5 (.inr rfl) _ _
  have q23 : (encT 3 (s ++ t).data.toList).length = (encT 2 (s ++ t).data.toList).length ∧ 2 * n ≤ (encT 2 (s ++ t).data.toList).length ∧ (encT 2 (s ++ t).data.toList).length ≤ 4 * n := by rw [← hn]; exact len23 _ _
  have q1 : (encT 1 (s ++ t).data.toList).length = s.size + t.size := by
    have := encL_one (s ++ t).data.toList.length (s ++ t).data.toList (Nat.le_refl _) hwst
    rw [← Lib.size_eq, hst] at this
    have e1 : encT 1 (s ++ t).data.toList = encL 1 (s ++ t).size (s ++ t).data.toList := by unfold encT; rw [Lib.size_eq]
    rw [e1, hst]; exact this
  have step : ∀ (k : Nat) (x : Int), 4000 ≤ k → 1 ≤ x ∧ x ≤ 5 → targumlaw1_UtfSizes.l1 (k + 1) s t (n : Int) x = targumlaw1_UtfSizes.l1 k s t (n : Int) (x + 1) := by
    intro k x hk hx
    simp only [targumlaw1_UtfSizes.l1]
    have a1 := ls x; have a2 := lt x
    rw [if_pos (by omega), if_pos big, bz k x hx hk, Option.bind_some, sz k x hx hk, Option.bind_some, tz k x hx hk, Option.bind_some, est x, List.length_append, wrap_id (by omega) (by omega), if_pos (by omega), en k x hx hk, Option.bind_some, Option.bind_some, if_pos rfl, wrap_id (by omega) (by omega)]
  have fin : ∀ k : Nat, 4000 ≤ k → targumlaw1_UtfSizes.l1 (k + 1) s t (n : Int) 6 = some true := by
    intro k hk
    simp only [targumlaw1_UtfSizes.l1]
    have w4 : wrap64 (4 * (n : Int)) = 4 * (n : Int) := wrap_id (by omega) (by omega)
    have w2 : wrap64 (2 * (n : Int)) = 2 * (n : Int) := wrap_id (by omega) (by omega)
    have ws : wrap64 ((s.size : Int) + (t.size : Int)) = (s.size : Int) + (t.size : Int) := wrap_id (by omega) (by omega)
    rw [if_neg (by decide), if_pos big, bz k 2 (by omega) hk, Option.bind_some, bz k 4 (by omega) hk, Option.bind_some, w4, if_pos (by rw [q4]; omega), bz k 5 (by omega) hk, Option.bind_some, if_pos (by rw [q5]; omega), w2, if_pos (by omega), if_pos (by omega), bz k 3 (by omega) hk, Option.bind_some, if_pos (by rw [q23.1]), bz k 1 (by omega) hk, Option.bind_some, ws, q1]
    congr 1
    exact beq_iff_eq.2 (by omega)
  have all : ∀ k', 4010 ≤ k' → targumlaw1_UtfSizes.l1 k' s t (n : Int) 1 = some true := by
    intro k hk
    obtain ⟨k, rfl⟩ : ∃ j, k = j + 1 + 1 + 1 + 1 + 1 + 1 := ⟨k - 6, by omega⟩
    rw [step _ 1 (by omega) (by omega), step _ (1 + 1) (by omega) (by omega), step _ (1 + 1 + 1) (by omega) (by omega), step _ (1 + 1 + 1 + 1) (by omega) (by omega), step _ (1 + 1 + 1 + 1 + 1) (by omega) (by omega)]
    exact fin k (by omega)
  have := sizes_l0 s t (s ++ t) (by omega) 4010 (s ++ t).data.toList.length 0 K 0 ⟨Int.le_refl 0, Int.le_refl 0⟩ (by rw [Lib.size_eq]; exact Nat.sub_le _ _) (Nat.zero_le _) (by rw [← Lib.size_eq]; omega) (by rw [List.drop_zero]; exact hwst) (fun k' hk' => by rw [List.drop_zero, hn, Int.zero_add]; exact all k' hk')
  exact this
end Go.Proofs.YtmpdggphhhljhaaDoor.Pure
