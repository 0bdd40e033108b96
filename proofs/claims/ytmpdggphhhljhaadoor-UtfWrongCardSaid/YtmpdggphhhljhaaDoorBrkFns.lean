/- What the functions of layer 2 and of its reference compute, in plain words. No conditions. -/
import Derived.Test.YtmpdggphhhljhaaDoorAid
import Derived.Test.YtmpdggphhhljhaaDoorPCx5
import Derived.Test.YtmpdggphhhljhaaDoorPCx6
namespace Go.Proofs.YtmpdggphhhljhaaDoor.BrkFns
set_option linter.unusedSimpArgs false
set_option linter.unusedVariables false
open Go.RowKit Go.Proofs.YtmpdggphhhljhaaDoor.PC Go.Proofs.YtmpdggphhhljhaaDoorW.PrintWords Go.Proofs.YtmpdggphhhljhaaDoor.Aid


/-- how many bytes the break has that a text begins with -/
def brkW (v : Int) (l : List UInt8) : Int :=
  if v = 11 ∧ (([226, 128, 168] : List UInt8).isPrefixOf l = true ∨ ([226, 128, 169] : List UInt8).isPrefixOf l = true) then 3
  else if (v = 11 ∧ ([194, 133] : List UInt8).isPrefixOf l = true) ∨ ([13, 10] : List UInt8).isPrefixOf l = true then 2
  else if ba l 0 = 13 ∨ ba l 0 = 10 then 1 else 0






/-! ### the reference's reader of scalars -/
theorem IsScalar_eq (c : Int) : targumref1_IsScalar.f c = some (isScalar c) := by
  unfold targumref1_IsScalar.f isScalar
  repeat' split
  all_goals (simp only [Option.some.injEq]; symm; first | (apply decide_eq_true; omega) | (apply decide_eq_false; omega) | (rw [Bool.eq_iff_iff]; simp only [decide_eq_true_eq]; omega))

theorem Next_end (k : Nat) (s : ByteArray) (i c n least j : Int) (hj : n ≤ j) : targumref1_Next.l0 (k + 1) s i c n least j = some (if c < least ∨ isScalar c = false then (0, 0) else (c, n)) := by
  simp only [targumref1_Next.l0]
  rw [if_neg (by omega), IsScalar_eq]
  by_cases h : c < least
  · rw [if_pos h, if_pos (.inl h)]
  · rw [if_neg h]
    simp only [Option.bind_some]
    cases isScalar c <;> simp [h]
theorem Next_step (k : Nat) (s : ByteArray) (i : Nat) (c n least j : Int) (hs : s.size ≤ 140737488351232) (hi : i < s.size) (hj : 1 ≤ j) (hjn : j < n) (hn : n ≤ 4) (hc0 : -1000000 ≤ c) (hc1 : c ≤ 1000000000) :
    targumref1_Next.l0 (k + 1) s i c n least j = if n ≤ (s.size : Int) - i ∧ 128 ≤ ba (s.data.toList.drop i) j.toNat ∧ ba (s.data.toList.drop i) j.toNat < 192
      then targumref1_Next.l0 k s i (c * 64 + ba (s.data.toList.drop i) j.toNat - 128) n least (j + 1) else some (0, 0) := by
  simp only [targumref1_Next.l0]
  have hb : bt s (wrap64 ((i : Int) + j)) = ba (s.data.toList.drop i) j.toNat := by
    rw [wrap_id (by omega) (by omega), bt_ba, ba_drop]
    congr 1
    omega
  have hr := ba_range (s.data.toList.drop i) j.toNat
  rw [if_pos (by omega), hb, wrap_id (x := (s.size : Int) - i) (by omega) (by omega)]
  by_cases h1 : n ≤ (s.size : Int) - i
  · rw [if_neg (by omega), wrap_id (x := (i : Int) + j) (by omega) (by omega), if_pos (by omega), if_pos (by omega)]
    by_cases h2 : ba (s.data.toList.drop i) j.toNat < 128
    · rw [if_pos h2, if_neg (by omega)]
    · rw [if_neg h2]
      by_cases h3 : ba (s.data.toList.drop i) j.toNat ≥ 192
      · rw [if_pos h3, if_neg (by omega)]
      · rw [if_neg h3, if_pos ⟨h1, by omega, by omega⟩, wrap_id (x := ba (s.data.toList.drop i) j.toNat) (by omega) (by omega), wrap_id (x := c * 64) (by omega) (by omega), wrap_id (x := c * 64 + _) (by omega) (by omega), wrap_id (x := c * 64 + ba (s.data.toList.drop i) j.toNat - 128) (by omega) (by omega), wrap_id (x := j + 1) (by omega) (by omega)]
  · rw [if_pos (by omega), if_neg (by omega)]
theorem ite_scalar (c : Int) (n least : Int) (p : Nat × Nat) (m : Nat) (hn : n = m) (hp : p = if c.toNat ≥ least.toNat ∧ (c.toNat < 55296 ∨ (57344 ≤ c.toNat ∧ c.toNat ≤ 1114111)) then (c.toNat, m) else (0, 0)) (hc : 0 ≤ c) (hl : 0 ≤ least) :
    (if c < least ∨ isScalar c = false then ((0, 0) : Int × Int) else (c, n)) = ((p.1 : Int), (p.2 : Int)) := by
  subst hn
  have e : isScalar c = false ↔ ¬ (c ≤ 1114111 ∧ (c < 55296 ∨ 57343 < c)) := by
    unfold isScalar
    rw [decide_eq_false_iff_not]
    omega
  by_cases h : c < least ∨ isScalar c = false
  · rw [if_pos h, hp, if_neg (by rw [e] at h; omega)]
    rfl
  · rw [if_neg h, hp, if_pos (by rw [e] at h; omega)]
    simp only [Prod.mk.injEq]
    exact ⟨by omega, trivial⟩

theorem nx_cases (l : List UInt8) (hl : l ≠ []) (x0 x1 x2 x3 : Nat) (h0 : ba l 0 = x0) (h1 : ba l 1 = x1) (h2 : ba l 2 = x2) (h3 : ba l 3 = x3) :
    nx l = if x0 < 128 then (x0, 1)
      else if 192 ≤ x0 ∧ x0 < 224 then (if 2 ≤ l.length ∧ 128 ≤ x1 ∧ x1 < 192 ∧ x0 % 32 * 64 + x1 % 64 ≥ 128 then (x0 % 32 * 64 + x1 % 64, 2) else (0, 0))
      else if 224 ≤ x0 ∧ x0 < 240 then (if 3 ≤ l.length ∧ 128 ≤ x1 ∧ x1 < 192 ∧ 128 ≤ x2 ∧ x2 < 192 ∧ x0 % 16 * 4096 + x1 % 64 * 64 + x2 % 64 ≥ 2048 ∧ (x0 % 16 * 4096 + x1 % 64 * 64 + x2 % 64 < 55296 ∨ (57344 ≤ x0 % 16 * 4096 + x1 % 64 * 64 + x2 % 64 ∧ x0 % 16 * 4096 + x1 % 64 * 64 + x2 % 64 ≤ 1114111)) then (x0 % 16 * 4096 + x1 % 64 * 64 + x2 % 64, 3) else (0, 0))
      else if 240 ≤ x0 ∧ x0 < 248 then (if 4 ≤ l.length ∧ 128 ≤ x1 ∧ x1 < 192 ∧ 128 ≤ x2 ∧ x2 < 192 ∧ 128 ≤ x3 ∧ x3 < 192 ∧ x0 % 8 * 262144 + x1 % 64 * 4096 + x2 % 64 * 64 + x3 % 64 ≥ 65536 ∧ (x0 % 8 * 262144 + x1 % 64 * 4096 + x2 % 64 * 64 + x3 % 64 < 55296 ∨ (57344 ≤ x0 % 8 * 262144 + x1 % 64 * 4096 + x2 % 64 * 64 + x3 % 64 ∧ x0 % 8 * 262144 + x1 % 64 * 4096 + x2 % 64 * 64 + x3 % 64 ≤ 1114111)) then (x0 % 8 * 262144 + x1 % 64 * 4096 + x2 % 64 * 64 + x3 % 64, 4) else (0, 0))
      else (0, 0) := by
  have g0 := Int.ofNat.inj h0; have g1 := Int.ofNat.inj h1; have g2 := Int.ofNat.inj h2; have g3 := Int.ofNat.inj h3
  have r0 := (ba_range l 0).2; have r1 := (ba_range l 1).2; have r2 := (ba_range l 2).2; have r3 := (ba_range l 3).2
  rw [h0] at r0; rw [h1] at r1; rw [h2] at r2; rw [h3] at r3
  unfold nx
  rw [if_neg hl, g0, g1, g2, g3]
  have hp : 0 < l.length := List.length_pos_iff.2 hl
  generalize l.length = n at hp ⊢
  clear h0 h1 h2 h3 g0 g1 g2 g3 hl
  have bad : ∀ q : Nat × Nat, q = (65533, 1) → (if q = (65533, 1) then ((0, 0) : Nat × Nat) else q) = (0, 0) := fun q h => by rw [if_pos h]
  have good : ∀ q r : Nat × Nat, q = r → (r.2 ≠ 1 ∨ r.1 ≠ 65533) → (if q = (65533, 1) then ((0, 0) : Nat × Nat) else q) = r := fun q r h h' => by
    rw [if_neg (by rw [h]; rintro rfl; simp at h'), h]
  unfold Lib.decodeN
  by_cases c1 : x0 < 128
  · rw [if_pos c1, if_pos c1]; exact good _ _ rfl (.inr (by simp only; omega))
  · rw [if_neg c1]
    simp only [if_neg c1]
    by_cases c2 : 192 ≤ x0 ∧ x0 < 224
    · rw [if_pos c2]
      by_cases d : 2 ≤ n ∧ 128 ≤ x1 ∧ x1 < 192 ∧ x0 % 32 * 64 + x1 % 64 ≥ 128
      · rw [if_pos d]
        exact good _ _ (by rw [if_pos (by omega), if_pos (by omega)]) (.inl (by simp))
      · rw [if_neg d]
        apply bad
        by_cases d2 : x0 / 32 = 6 ∧ (1 < n ∧ x1 / 64 = 2)
        · rw [if_pos d2, if_neg (by omega)]
        · rw [if_neg d2, if_neg (by omega), if_neg (by omega)]
    · rw [if_neg c2]
      by_cases c3 : 224 ≤ x0 ∧ x0 < 240
      · rw [if_pos c3]
        by_cases d : 3 ≤ n ∧ 128 ≤ x1 ∧ x1 < 192 ∧ 128 ≤ x2 ∧ x2 < 192 ∧ x0 % 16 * 4096 + x1 % 64 * 64 + x2 % 64 ≥ 2048 ∧ (x0 % 16 * 4096 + x1 % 64 * 64 + x2 % 64 < 55296 ∨ (57344 ≤ x0 % 16 * 4096 + x1 % 64 * 64 + x2 % 64 ∧ x0 % 16 * 4096 + x1 % 64 * 64 + x2 % 64 ≤ 1114111))
        · rw [if_pos d]
          exact good _ _ (by rw [if_neg (by omega), if_pos (by omega), if_pos d.2.2.2.2.2]) (.inl (by simp))
        · rw [if_neg d]
          apply bad
          rw [if_neg (by omega)]
          by_cases d2 : x0 / 16 = 14 ∧ (1 < n ∧ x1 / 64 = 2) ∧ (2 < n ∧ x2 / 64 = 2)
          · rw [if_pos d2, if_neg (fun h => d ⟨by omega, by omega, by omega, by omega, by omega, h⟩)]
          · rw [if_neg d2, if_neg (by omega)]
      · rw [if_neg c3]
        by_cases c4 : 240 ≤ x0 ∧ x0 < 248
        · rw [if_pos c4]
          by_cases d : 4 ≤ n ∧ 128 ≤ x1 ∧ x1 < 192 ∧ 128 ≤ x2 ∧ x2 < 192 ∧ 128 ≤ x3 ∧ x3 < 192 ∧ x0 % 8 * 262144 + x1 % 64 * 4096 + x2 % 64 * 64 + x3 % 64 ≥ 65536 ∧ (x0 % 8 * 262144 + x1 % 64 * 4096 + x2 % 64 * 64 + x3 % 64 < 55296 ∨ (57344 ≤ x0 % 8 * 262144 + x1 % 64 * 4096 + x2 % 64 * 64 + x3 % 64 ∧ x0 % 8 * 262144 + x1 % 64 * 4096 + x2 % 64 * 64 + x3 % 64 ≤ 1114111))
          · rw [if_pos d]
            exact good _ _ (by rw [if_neg (by omega), if_neg (by omega), if_pos (by omega), if_pos d.2.2.2.2.2.2.2]) (.inl (by simp))
          · rw [if_neg d]
            apply bad
            rw [if_neg (by omega), if_neg (by omega)]
            by_cases d2 : x0 / 8 = 30 ∧ (1 < n ∧ x1 / 64 = 2) ∧ (2 < n ∧ x2 / 64 = 2) ∧ (3 < n ∧ x3 / 64 = 2)
            · rw [if_pos d2, if_neg (fun h => d ⟨by omega, by omega, by omega, by omega, by omega, by omega, by omega, h⟩)]
            · rw [if_neg d2]
        · rw [if_neg c4]
          apply bad
          rw [if_neg (by omega), if_neg (by omega), if_neg (by omega)]

theorem Next_eq (k : Nat) (hk : 9 ≤ k) (s : ByteArray) (hs : s.size ≤ 140737488351232) (i : Int) :
    targumref1_Next.f k s i = some (if 0 ≤ i ∧ i < s.size then (((nx (s.data.toList.drop i.toNat)).1 : Int), ((nx (s.data.toList.drop i.toNat)).2 : Int)) else (0, 0)) := by
  obtain ⟨k, rfl⟩ : ∃ m, k = m + 9 := ⟨k - 9, by omega⟩
  unfold targumref1_Next.f
  by_cases h : 0 ≤ i ∧ i < s.size
  · obtain ⟨i, rfl⟩ : ∃ n : Nat, i = n := ⟨i.toNat, by omega⟩
    rw [if_pos h, if_neg (by omega), decide_eq_false (by omega), Int.toNat_natCast]
    have hlen : (s.data.toList.drop i).length = s.size - i := by rw [List.length_drop, ← Lib.size_eq]
    have hne : s.data.toList.drop i ≠ [] := by intro e; rw [e] at hlen; simp at hlen; omega
    obtain ⟨x0, g0⟩ : ∃ x : Nat, ba (s.data.toList.drop i) 0 = x := ⟨_, rfl⟩
    obtain ⟨x1, g1⟩ : ∃ x : Nat, ba (s.data.toList.drop i) 1 = x := ⟨_, rfl⟩
    obtain ⟨x2, g2⟩ : ∃ x : Nat, ba (s.data.toList.drop i) 2 = x := ⟨_, rfl⟩
    obtain ⟨x3, g3⟩ : ∃ x : Nat, ba (s.data.toList.drop i) 3 = x := ⟨_, rfl⟩
    have e0 : bt s (i : Int) = x0 := by rw [bt_nat, ← g0, ba_drop]; rfl
    have hr0 := (ba_range (s.data.toList.drop i) 0).2
    have hr1 := (ba_range (s.data.toList.drop i) 1).2
    have hr2 := (ba_range (s.data.toList.drop i) 2).2
    have hr3 := (ba_range (s.data.toList.drop i) 3).2
    rw [g0] at hr0; rw [g1] at hr1; rw [g2] at hr2; rw [g3] at hr3
    rw [nx_cases _ hne x0 x1 x2 x3 g0 g1 g2 g3, hlen]
    rw [targumref1_Next.j0, if_neg (by decide), if_pos (by omega), if_pos (by omega), e0, wrap_id (by omega) (by omega)]
    have st := fun (k : Nat) (c n least j : Int) (hj : 1 ≤ j) (hjn : j < n) (hn : n ≤ 4) (hc0 : -1000000 ≤ c) (hc1 : c ≤ 1000000000) => Next_step k s i c n least j hs (by omega) hj hjn hn hc0 hc1
    by_cases c1 : x0 < 128
    · rw [if_pos (by omega), if_pos c1]
      rfl
    · rw [if_neg (by omega), if_neg c1]
      by_cases c2 : 192 ≤ x0 ∧ x0 < 224
      · rw [if_pos (by omega), decide_eq_true (by omega), if_pos c2, targumref1_Next.j1, if_pos rfl, targumref1_Next.j3, wrap_id (by omega) (by omega), st _ _ _ _ _ (by omega) (by omega) (by omega) (by omega) (by omega)]
        rw [show (1 : Int).toNat = 1 from rfl, g1]
        by_cases d : (2 : Int) ≤ (s.size : Int) - i ∧ 128 ≤ (x1 : Int) ∧ (x1 : Int) < 192
        · rw [if_pos d, Next_end _ _ _ _ _ _ _ (by omega)]
          congr 1
          refine ite_scalar _ _ _ _ 2 rfl ?_ (by omega) (by omega)
          rw [show ((x0 : Int) - 192) * 64 + x1 - 128 = ((x0 % 32 * 64 + x1 % 64 : Nat) : Int) by omega]
          simp only [Int.toNat_natCast]
          by_cases q : x0 % 32 * 64 + x1 % 64 ≥ 128
          · rw [if_pos (by omega), if_pos (by simp; omega)]
          · rw [if_neg (by omega), if_neg (by simp; omega)]
        · rw [if_neg d, if_neg (by omega)]
          rfl
      · rw [if_neg c2]
        by_cases cc : x0 ≥ 192
        · rw [if_pos (by omega), decide_eq_false (by omega), targumref1_Next.j1, if_neg (by decide), if_pos (by omega)]
          by_cases c3 : 224 ≤ x0 ∧ x0 < 240
          · rw [decide_eq_true (by omega), if_pos c3, targumref1_Next.j2, if_pos rfl, targumref1_Next.j3, wrap_id (by omega) (by omega), st _ _ _ _ _ (by omega) (by omega) (by omega) (by omega) (by omega)]
            rw [show (1 : Int).toNat = 1 from rfl, g1]
            by_cases d : (3 : Int) ≤ (s.size : Int) - i ∧ 128 ≤ (x1 : Int) ∧ (x1 : Int) < 192
            · rw [if_pos d, st _ _ _ _ _ (by omega) (by omega) (by omega) (by omega) (by omega), show ((1 : Int) + 1).toNat = 2 from rfl, g2]
              by_cases d2 : (3 : Int) ≤ (s.size : Int) - i ∧ 128 ≤ (x2 : Int) ∧ (x2 : Int) < 192
              · rw [if_pos d2, Next_end _ _ _ _ _ _ _ (by omega)]
                congr 1
                refine ite_scalar _ _ _ _ 3 rfl ?_ (by omega) (by omega)
                rw [show (((x0 : Int) - 224) * 64 + x1 - 128) * 64 + x2 - 128 = ((x0 % 16 * 4096 + x1 % 64 * 64 + x2 % 64 : Nat) : Int) by omega]
                simp only [Int.toNat_natCast, show (2048 : Int).toNat = 2048 from rfl, show (65536 : Int).toNat = 65536 from rfl]
                by_cases q : x0 % 16 * 4096 + x1 % 64 * 64 + x2 % 64 ≥ 2048 ∧ (x0 % 16 * 4096 + x1 % 64 * 64 + x2 % 64 < 55296 ∨ (57344 ≤ x0 % 16 * 4096 + x1 % 64 * 64 + x2 % 64 ∧ x0 % 16 * 4096 + x1 % 64 * 64 + x2 % 64 ≤ 1114111))
                · rw [if_pos ⟨by omega, by omega, by omega, by omega, by omega, q⟩, if_pos q]
                · rw [if_neg (fun h => q h.2.2.2.2.2), if_neg q]
              · rw [if_neg d2, if_neg (by omega)]
                rfl
            · rw [if_neg d, if_neg (by omega)]
              rfl
          · rw [if_neg c3, decide_eq_false (by omega), targumref1_Next.j2, if_neg (by decide)]
            by_cases c4 : 240 ≤ x0 ∧ x0 < 248
            · rw [if_pos (by omega), if_pos (by omega), if_pos c4, targumref1_Next.j3, wrap_id (by omega) (by omega), st _ _ _ _ _ (by omega) (by omega) (by omega) (by omega) (by omega)]
              rw [show (1 : Int).toNat = 1 from rfl, g1]
              by_cases d : (4 : Int) ≤ (s.size : Int) - i ∧ 128 ≤ (x1 : Int) ∧ (x1 : Int) < 192
              · rw [if_pos d, st _ _ _ _ _ (by omega) (by omega) (by omega) (by omega) (by omega), show ((1 : Int) + 1).toNat = 2 from rfl, g2]
                by_cases d2 : (4 : Int) ≤ (s.size : Int) - i ∧ 128 ≤ (x2 : Int) ∧ (x2 : Int) < 192
                · rw [if_pos d2, st _ _ _ _ _ (by omega) (by omega) (by omega) (by omega) (by omega), show ((1 : Int) + 1 + 1).toNat = 3 from rfl, g3]
                  by_cases d3 : (4 : Int) ≤ (s.size : Int) - i ∧ 128 ≤ (x3 : Int) ∧ (x3 : Int) < 192
                  · rw [if_pos d3, Next_end _ _ _ _ _ _ _ (by omega)]
                    congr 1
                    refine ite_scalar _ _ _ _ 4 rfl ?_ (by omega) (by omega)
                    rw [show ((((x0 : Int) - 240) * 64 + x1 - 128) * 64 + x2 - 128) * 64 + x3 - 128 = ((x0 % 8 * 262144 + x1 % 64 * 4096 + x2 % 64 * 64 + x3 % 64 : Nat) : Int) by omega]
                    simp only [Int.toNat_natCast, show (2048 : Int).toNat = 2048 from rfl, show (65536 : Int).toNat = 65536 from rfl]
                    by_cases q : x0 % 8 * 262144 + x1 % 64 * 4096 + x2 % 64 * 64 + x3 % 64 ≥ 65536 ∧ (x0 % 8 * 262144 + x1 % 64 * 4096 + x2 % 64 * 64 + x3 % 64 < 55296 ∨ (57344 ≤ x0 % 8 * 262144 + x1 % 64 * 4096 + x2 % 64 * 64 + x3 % 64 ∧ x0 % 8 * 262144 + x1 % 64 * 4096 + x2 % 64 * 64 + x3 % 64 ≤ 1114111))
                    · rw [if_pos ⟨by omega, by omega, by omega, by omega, by omega, by omega, by omega, q⟩, if_pos q]
                    · rw [if_neg (fun h => q h.2.2.2.2.2.2.2), if_neg q]
                  · rw [if_neg d3, if_neg (by omega)]
                    rfl
                · rw [if_neg d2, if_neg (by omega)]
                  rfl
              · rw [if_neg d, if_neg (by omega)]
                rfl
            · rw [if_neg c4]
              by_cases c5 : (x0 : Int) ≥ 240
              · rw [if_pos c5, if_neg (by omega)]
                rfl
              · rw [if_neg c5]
                rfl
        · rw [if_neg (by omega), targumref1_Next.j1, if_neg (by decide), if_neg (by omega), targumref1_Next.j2, if_neg (by decide), if_neg (by omega), if_neg (by omega), if_neg (by omega)]
          rfl
  · rw [if_neg h]
    by_cases h1 : i < 0
    · rw [if_pos h1]; simp [targumref1_Next.j0]
    · rw [if_neg h1, decide_eq_true (by omega)]; simp [targumref1_Next.j0]

end Go.Proofs.YtmpdggphhhljhaaDoor.BrkFns
