/- UtfTurned in plain words. -/
import Derived.Test.YtmpdggphhhljhaaDoorUtfLaw
import Derived.Test.YtmpdggphhhljhaaDoorPWx8
namespace Go.Proofs.YtmpdggphhhljhaaDoor.Pure
set_option linter.unusedSimpArgs false
set_option linter.unusedVariables false
open Go.RowKit Go.Proofs.YtmpdggphhhljhaaDoor.PW Go.Proofs.YtmpdggphhhljhaaDoorW.PrintWords Go.Proofs.YtmpdggphhhljhaaDoor.Aid Go.Proofs.YtmpdggphhhljhaaDoor.BrkFns Go.Proofs.YtmpdggphhhljhaaDoor.UtfSpec
/-- b is a with its units of n bytes turned -/
def Turn (n : Nat) (a b : List Int) : Prop := a.length = b.length ∧ a.length % n = 0 ∧ ∀ i, i < a.length → rd a i = rd b ((i / n * n + n - 1 - i % n : Nat) : Int)
theorem rd_app_l (a b : List Int) (i : Nat) (h : i < a.length) : rd (a ++ b) (i : Int) = rd a (i : Int) := by
  unfold rd
  rw [Int.toNat_natCast, List.getD_eq_getElem?_getD, List.getD_eq_getElem?_getD, List.getElem?_append_left h]
theorem rd_app_r (a b : List Int) (i : Nat) (h : a.length ≤ i) : rd (a ++ b) (i : Int) = rd b ((i - a.length : Nat) : Int) := by
  unfold rd
  rw [Int.toNat_natCast, Int.toNat_natCast, List.getD_eq_getElem?_getD, List.getD_eq_getElem?_getD, List.getElem?_append_right h]
theorem Turn.app {n : Nat} (hn : 0 < n) {a b c d : List Int} (h : Turn n a b) (g : Turn n c d) : Turn n (a ++ c) (b ++ d) := by
  obtain ⟨h1, h2, h3⟩ := h
  obtain ⟨g1, g2, g3⟩ := g
  refine ⟨by rw [List.length_append, List.length_append]; omega, ?_, ?_⟩
  · rw [List.length_append, Nat.add_mod, h2, g2]; simp
  · intro i hi
    rw [List.length_append] at hi
    obtain ⟨q, hq⟩ : ∃ q, a.length = n * q := ⟨a.length / n, by have := Nat.div_add_mod a.length n; rw [h2] at this; omega⟩
    have hm : i % n < n := Nat.mod_lt _ hn
    have hd := Nat.div_add_mod i n
    by_cases hl : i < a.length
    · have e1 := h3 i hl
      have lt : i / n * n + n - 1 - i % n < b.length := by
        have : i / n < q := by
          rw [Nat.div_lt_iff_lt_mul hn, Nat.mul_comm]; omega
        have h5 : (i / n + 1) * n ≤ q * n := Nat.mul_le_mul_right n this
        rw [Nat.add_mul, Nat.one_mul] at h5
        rw [← h1, hq, Nat.mul_comm n q]; omega
      rw [rd_app_l a c i hl, rd_app_l b d _ lt, e1]
    · have hge : a.length ≤ i := by omega
      have e2 : (i - a.length) / n = i / n - q := by rw [hq, Nat.sub_mul_div]
      have e3 : (i - a.length) % n = i % n := by
        rw [hq]
        exact Nat.sub_mul_mod (by omega)
      have hqi : q ≤ i / n := by rw [Nat.le_div_iff_mul_le hn, Nat.mul_comm]; omega
      have h6 : q * n ≤ i / n * n := Nat.mul_le_mul_right n hqi
      have e1 := g3 (i - a.length) (by omega)
      rw [e2, e3, Nat.sub_mul] at e1
      rw [rd_app_r a c i hge, rd_app_r b d _ (by rw [← h1, hq, Nat.mul_comm n q]; omega), e1]
      congr 2
      rw [← h1, hq, Nat.mul_comm n q]
      omega
theorem turn2 (c : Int) : Turn 2 (b2 false c) (b2 true c) := by
  refine ⟨by rw [b2_len, b2_len], by rw [b2_len], ?_⟩
  intro i hi
  rw [b2_len] at hi
  have : i = 0 ∨ i = 1 := by omega
  rcases this with rfl | rfl <;> rfl
theorem turn4 (c : Int) : Turn 4 (b4 false c) (b4 true c) := by
  refine ⟨by rw [b4_len, b4_len], by rw [b4_len], ?_⟩
  intro i hi
  rw [b4_len] at hi
  have : i = 0 ∨ i = 1 ∨ i = 2 ∨ i = 3 := by omega
  rcases this with rfl | rfl | rfl | rfl <;> rfl
theorem turnU2 (c : Int) : Turn 2 (encU 2 c) (encU 3 c) := by
  show Turn 2 (if 65536 ≤ c then b2 false _ ++ b2 false _ else b2 false c) (if 65536 ≤ c then b2 true _ ++ b2 true _ else b2 true c)
  by_cases h : 65536 ≤ c
  · rw [if_pos h, if_pos h]; exact (turn2 _).app (by omega) (turn2 _)
  · rw [if_neg h, if_neg h]; exact turn2 _
theorem turnU4 (c : Int) : Turn 4 (encU 4 c) (encU 5 c) := by
  exact turn4 c
theorem turn_nil (n : Nat) : Turn n [] [] := ⟨rfl, Nat.zero_mod n, fun i hi => absurd hi (Nat.not_lt_zero i)⟩
theorem turnL (n : Nat) (hn : 0 < n) (e f : Int) (hu : ∀ c, Turn n (encU e c) (encU f c)) : ∀ (d : Nat) (l : List UInt8), Turn n (encL e d l) (encL f d l)
  | 0, _ => turn_nil n
  | d + 1, l => by
    simp only [encL]
    split
    · exact turn_nil n
    · exact (hu _).app hn (turnL n hn e f hu d _)
theorem turned_at (n : Nat) (hn : 0 < n ∧ n ≤ 4) (i : Nat) (hi : i ≤ 100000) : wrap64 (wrap64 (wrap64 (wrap64 (wrap64 (Int.tdiv (i : Int) (n : Int)) * (n : Int)) + (n : Int)) - 1) - Int.tmod (i : Int) (n : Int)) = ((i / n * n + n - 1 - i % n : Nat) : Int) := by
  have hm : i % n < n := Nat.mod_lt _ (by omega)
  have hq : i / n ≤ i := Nat.div_le_self _ _
  have hle : i / n * n ≤ i := Nat.div_mul_le_self _ _
  rw [Int.tdiv_eq_ediv_of_nonneg (by omega), Int.tmod_eq_emod_of_nonneg (by omega), ← Int.natCast_ediv, ← Int.natCast_emod]
  generalize i % n = m at hm ⊢
  have e1 : wrap64 ((i / n : Nat) : Int) = ((i / n : Nat) : Int) := by
    generalize i / n = z at hq ⊢
    exact wrap_id (by omega) (by omega)
  rw [e1, ← Int.natCast_mul]
  generalize i / n * n = z at hle ⊢
  rw [wrap_id (x := ((z : Nat) : Int)) (by omega) (by omega), wrap_id (x := (z : Int) + (n : Int)) (by omega) (by omega), wrap_id (x := (z : Int) + (n : Int) - 1) (by omega) (by omega), wrap_id (by omega) (by omega)]
  omega
theorem turned_lt {n i a b : Nat} (hn : 0 < n) (h2 : a % n = 0) (h1 : a = b) (hi : i < a) : i / n * n + n - 1 - i % n < b := by
  subst h1
  obtain ⟨q, rfl⟩ : ∃ q, a = n * q := ⟨a / n, by have := Nat.div_add_mod a n; rw [h2] at this; omega⟩
  have : i / n < q := by
    rw [Nat.div_lt_iff_lt_mul hn, Nat.mul_comm]; exact hi
  have h5 : (i / n + 1) * n ≤ q * n := Nat.mul_le_mul_right n this
  rw [Nat.add_mul, Nat.one_mul] at h5
  rw [Nat.mul_comm n q]
  generalize i % n = m
  generalize i / n * n = z at h5 ⊢
  generalize q * n = y at h5 ⊢
  omega
theorem turned_l0 (n : Nat) (hn : 0 < n ∧ n ≤ 4) (a b : List Int) (h : Turn n a b) (hz : a.length ≤ 100000) : ∀ (d i k : Nat), a.length - i ≤ d → d < k → targumlaw1_UtfTurned.l0 k a b (n : Int) (i : Int) = some true := by
  intro d
  induction d with
  | zero =>
    intro i k hd hk
    obtain ⟨k, rfl⟩ : ∃ j, k = j + 1 := ⟨k - 1, by omega⟩
    simp only [targumlaw1_UtfTurned.l0]
    rw [if_neg (by omega)]
  | succ d ih =>
    intro i k hd hk
    obtain ⟨k, rfl⟩ : ∃ j, k = j + 1 := ⟨k - 1, by omega⟩
    simp only [targumlaw1_UtfTurned.l0]
    by_cases hlt : i < a.length
    · have lt := turned_lt hn.1 h.2.1 h.1 hlt
      have fin := ih (i + 1) k (by omega) (by omega)
      rw [show ((i + 1 : Nat) : Int) = (i : Int) + 1 by omega] at fin
      have h3 := h.2.2 i hlt
      rw [turned_at n hn i (by omega)]
      generalize i / n * n + n - 1 - i % n = z at lt h3 ⊢
      rw [if_pos (by omega), if_pos (by omega), if_neg (by omega), if_pos (by omega), if_pos (by omega), if_pos h3, wrap_id (by omega) (by omega)]
      exact fin
    · rw [if_neg (by omega)]
theorem turned_j1 (n : Nat) (hn : 0 < n ∧ n ≤ 4) (a b : List Int) (h : Turn n a b) (k : Nat) (hz : a.length ≤ 100000) (hk : a.length + 4 ≤ k) : targumlaw1_UtfTurned.j1 k a b (n : Int) = some true := by
  obtain ⟨k, rfl⟩ : ∃ j, k = j + 2 := ⟨k - 2, by omega⟩
  simp only [targumlaw1_UtfTurned.j1]
  have hmod : (a.length : Int) % (n : Int) = 0 := by rw [← Int.natCast_emod, h.2.1]; rfl
  rw [if_pos (by rw [h.1]), if_neg (by omega), hmod]
  simp only [targumlaw1_UtfTurned.j2]
  rw [if_neg (by decide)]
  have := turned_l0 n hn a b h hz a.length 0 k (by omega) (by omega)
  exact this
theorem UtfTurned : targumlaw1_UtfTurned.Pure := by
  intro s w hs
  obtain ⟨K, hK⟩ : ∃ K, K = 4999 := ⟨_, rfl⟩
  refine ⟨K + 1, ?_⟩
  unfold targumlaw1_UtfTurned.f
  rw [known1 _ (by omega), Option.bind_some, if_pos rfl]
  have J : targumlaw1_UtfTurned.j0 (K + 1) s w true = some true := by simp only [targumlaw1_UtfTurned.j0, if_true]
  by_cases h : (s.size : Int) > 300
  · rw [if_pos h]; exact J
  · rw [if_neg h, Well_eq s hs (K + 1) (by omega), Option.bind_some]
    by_cases hw : well s.data.toList = true
    · rw [hw]
      have E : ∀ e : Int, 1 ≤ e ∧ e ≤ 5 → utf_Encode.f K e s = some (encL e s.size s.data.toList) := fun e he => by
        rw [Encode_eq K e s (by omega) (by omega)]; unfold encS; rw [if_pos ⟨he.1, he.2, hw⟩]
      have hlen : ∀ (e : Int) (d : Nat) (l : List UInt8), (encL e d l).length ≤ 4 * d := by
        intro e d
        induction d with
        | zero => intro l; exact Nat.le_refl 0
        | succ d ih =>
          intro l
          simp only [encL]
          split
          · exact Nat.zero_le _
          · rw [List.length_append]; have := ih (l.drop (nx l).2); have := encU_len e ((nx l).1 : Int); omega
      show targumlaw1_UtfTurned.j0 (K + 1) s w false = some true
      simp only [targumlaw1_UtfTurned.j0]
      rw [if_neg (by decide), E 2 (by omega), Option.bind_some, E 3 (by omega), Option.bind_some]
      cases w
      · rw [if_neg (by decide)]
        have := hlen 2 s.size s.data.toList
        exact turned_j1 2 (by omega) _ _ (turnL 2 (by omega) 2 3 turnU2 _ _) K (by omega) (by omega)
      · rw [if_pos rfl, E 4 (by omega), Option.bind_some, E 5 (by omega), Option.bind_some]
        have := hlen 4 s.size s.data.toList
        exact turned_j1 4 (by omega) _ _ (turnL 4 (by omega) 4 5 turnU4 _ _) K (by omega) (by omega)
    · rw [show well s.data.toList = false by simpa using hw]; exact J
end Go.Proofs.YtmpdggphhhljhaaDoor.Pure
