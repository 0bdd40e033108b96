/- What the reference of layer 1 computes: units, scalars, where texts begin. No conditions but sizes. -/
import Derived.Test.YtmpdggphhhljhaaDoorUtfSpec
import Derived.Test.YtmpdggphhhljhaaDoorPTx8
import Derived.Test.YtmpdggphhhljhaaDoorPTx6
namespace Go.Proofs.YtmpdggphhhljhaaDoor.UtfSpec
set_option linter.unusedSimpArgs false
set_option linter.unusedVariables false
open Go.RowKit Go.Proofs.YtmpdggphhhljhaaDoor.PT Go.Proofs.YtmpdggphhhljhaaDoorW.PrintWords Go.Proofs.YtmpdggphhhljhaaDoor.Aid Go.Proofs.YtmpdggphhhljhaaDoor.BrkFns
theorem rd_drop (l : List Int) (i : Nat) (j : Int) (hj : 0 ≤ j) : rd l ((i : Int) + j) = rd (l.drop i) j := by
  unfold rd
  rw [show ((i : Int) + j).toNat = i + j.toNat by omega, List.getD_eq_getElem?_getD, List.getD_eq_getElem?_getD, List.getElem?_drop]
theorem drop_length {l r : List Int} {i : Nat} (h : l.drop i = r) (hi : i ≤ l.length) : l.length = i + r.length := by
  rw [← h, List.length_drop]; omega
theorem runit_end (k : Nat) (l : List Int) (i n : Int) (t : Bool) (c : Int) : targumref1_unit.l0 (k + 1) l i n t c n = some (c, true) := by
  simp only [targumref1_unit.l0]
  rw [if_neg (by omega)]
theorem runit_step (k : Nat) (l : List Int) (i : Nat) (n j : Int) (hj0 : 0 ≤ j) (hj : j < n) (hn : n ≤ 4) (hl : (i : Int) + n ≤ l.length) (hz : l.length ≤ 1000000000) (t : Bool) (c : Int) (hc : 0 ≤ c ∧ c < 16777216) (x : Int) (hx : rd (l.drop i) (if t = true then n - 1 - j else j) = x) (hxb : 0 ≤ x ∧ x ≤ 255) :
    targumref1_unit.l0 (k + 1) l (i : Int) n t c j = targumref1_unit.l0 k l i n t (c * 256 + x) (j + 1) := by
  simp only [targumref1_unit.l0]
  rw [if_pos (by omega)]
  have e0 : wrap64 ((i : Int) + n) = (i : Int) + n := wrap_id (by omega) (by omega)
  have e1 : wrap64 (wrap64 (wrap64 ((i : Int) + n) - 1) - j) = (i : Int) + (n - 1 - j) := by
    rw [e0, wrap_id (x := (i : Int) + n - 1) (by omega) (by omega), wrap_id (by omega) (by omega)]; omega
  have e2 : wrap64 ((i : Int) + j) = (i : Int) + j := wrap_id (by omega) (by omega)
  have e3 : wrap64 (j + 1) = j + 1 := wrap_id (by omega) (by omega)
  have e4 : ∀ y : Int, 0 ≤ y → y ≤ 255 → wrap64 (wrap64 (c * 256) + wrap64 y) = c * 256 + y := by
    intro y h0 h1
    rw [wrap_id (x := c * 256) (by omega) (by omega), wrap_id (x := y) (by omega) (by omega), wrap_id (by omega) (by omega)]
  rw [e1, e2, e3]
  cases t with
  | true =>
    rw [if_pos rfl] at hx
    rw [if_pos rfl, if_pos (by omega), if_pos (by omega), rd_drop l i _ (by omega), hx, e4 x hxb.1 hxb.2]
  | false =>
    rw [if_neg Bool.false_ne_true] at hx
    rw [if_neg Bool.false_ne_true, if_pos (by omega), if_pos (by omega), rd_drop l i _ (by omega), hx, e4 x hxb.1 hxb.2]
theorem runit_few (k : Nat) (l : List Int) (i : Nat) (n : Int) (hn : 0 ≤ n ∧ n ≤ 4) (h : (l.length : Int) < i + n) (hi : i ≤ 1000000000) (t : Bool) : targumref1_unit.f k l (i : Int) n t = some (0, false) := by
  unfold targumref1_unit.f
  rw [wrap_id (by omega) (by omega), if_pos (by omega)]
theorem runit2 (k : Nat) (hk : 3 ≤ k) (l : List Int) (i : Nat) (hz : l.length ≤ 1000000000) (t : Bool) (a b : Int) (r : List Int) (h : l.drop i = a :: b :: r) (hb : isB (a :: b :: r)) : targumref1_unit.f k l (i : Int) 2 t = some (u2 t a b, true) := by
  have hi : i ≤ l.length := by
    rcases Nat.le_total i l.length with hi | hi
    · exact hi
    · rw [List.drop_eq_nil_of_le hi] at h; cases h
  have hlen := drop_length h hi
  rw [List.length_cons, List.length_cons] at hlen
  unfold targumref1_unit.f
  rw [wrap_id (by omega) (by omega), if_neg (by omega)]
  obtain ⟨k, rfl⟩ : ∃ j, k = j + 3 := ⟨k - 3, by omega⟩
  have h0 : rd (l.drop i) 0 = a := by rw [h]; rfl
  have h1 : rd (l.drop i) 1 = b := by rw [h]; rfl
  unfold u2
  have ra := hb.head; have rb := hb.tail.head
  cases t with
  | true =>
    rw [if_pos rfl, runit_step (k + 2) l i 2 0 (by omega) (by omega) (by omega) (by omega) hz true 0 (by omega) b (by rw [if_pos rfl]; exact h1) rb, runit_step (k + 1) l i 2 _ (by omega) (by omega) (by omega) (by omega) hz true _ (by omega) a (by rw [if_pos rfl]; exact h0) ra, show (0 : Int) + 1 + 1 = 2 from rfl, runit_end]
    congr 2; omega
  | false =>
    rw [if_neg Bool.false_ne_true, runit_step (k + 2) l i 2 0 (by omega) (by omega) (by omega) (by omega) hz false 0 (by omega) a (by rw [if_neg Bool.false_ne_true]; exact h0) ra, runit_step (k + 1) l i 2 _ (by omega) (by omega) (by omega) (by omega) hz false _ (by omega) b (by rw [if_neg Bool.false_ne_true]; exact h1) rb, show (0 : Int) + 1 + 1 = 2 from rfl, runit_end]
    congr 2; omega
theorem runit4 (k : Nat) (hk : 5 ≤ k) (l : List Int) (i : Nat) (hz : l.length ≤ 1000000000) (t : Bool) (a b c d : Int) (r : List Int) (h : l.drop i = a :: b :: c :: d :: r) (hb : isB (a :: b :: c :: d :: r)) : targumref1_unit.f k l (i : Int) 4 t = some (u4 t a b c d, true) := by
  have hi : i ≤ l.length := by
    rcases Nat.le_total i l.length with hi | hi
    · exact hi
    · rw [List.drop_eq_nil_of_le hi] at h; cases h
  have hlen := drop_length h hi
  rw [List.length_cons, List.length_cons, List.length_cons, List.length_cons] at hlen
  unfold targumref1_unit.f
  rw [wrap_id (by omega) (by omega), if_neg (by omega)]
  obtain ⟨k, rfl⟩ : ∃ j, k = j + 5 := ⟨k - 5, by omega⟩
  have h0 : rd (l.drop i) 0 = a := by rw [h]; rfl
  have h1 : rd (l.drop i) 1 = b := by rw [h]; rfl
  have h2 : rd (l.drop i) 2 = c := by rw [h]; rfl
  have h3 : rd (l.drop i) 3 = d := by rw [h]; rfl
  have ra := hb.head; have rb := hb.tail.head; have rc := hb.tail.tail.head; have re := hb.tail.tail.tail.head
  unfold u4
  cases t with
  | true =>
    rw [if_pos rfl, runit_step (k + 4) l i 4 0 (by omega) (by omega) (by omega) (by omega) hz true 0 (by omega) d (by rw [if_pos rfl]; exact h3) re, runit_step (k + 3) l i 4 _ (by omega) (by omega) (by omega) (by omega) hz true _ (by omega) c (by rw [if_pos rfl]; exact h2) rc, runit_step (k + 2) l i 4 _ (by omega) (by omega) (by omega) (by omega) hz true _ (by omega) b (by rw [if_pos rfl]; exact h1) rb, runit_step (k + 1) l i 4 _ (by omega) (by omega) (by omega) (by omega) hz true _ (by omega) a (by rw [if_pos rfl]; exact h0) ra, show (0 : Int) + 1 + 1 + 1 + 1 = 4 from rfl, runit_end]
    congr 2; omega
  | false =>
    rw [if_neg Bool.false_ne_true, runit_step (k + 4) l i 4 0 (by omega) (by omega) (by omega) (by omega) hz false 0 (by omega) a (by rw [if_neg Bool.false_ne_true]; exact h0) ra, runit_step (k + 3) l i 4 _ (by omega) (by omega) (by omega) (by omega) hz false _ (by omega) b (by rw [if_neg Bool.false_ne_true]; exact h1) rb, runit_step (k + 2) l i 4 _ (by omega) (by omega) (by omega) (by omega) hz false _ (by omega) c (by rw [if_neg Bool.false_ne_true]; exact h2) rc, runit_step (k + 1) l i 4 _ (by omega) (by omega) (by omega) (by omega) hz false _ (by omega) d (by rw [if_neg Bool.false_ne_true]; exact h3) re, show (0 : Int) + 1 + 1 + 1 + 1 = 4 from rfl, runit_end]
    congr 2; omega
theorem rIsScalar_eq (c : Int) : targumref1_IsScalar.f c = some (isScalar c) := IsScalar_eq c
/-- UTF-16 -/
theorem rscalar2 (k : Nat) (hk : 10 ≤ k) (e : Int) (he : e = 2 ∨ e = 3) (l : List Int) (i : Nat) (hi : i ≤ l.length) (hz : l.length ≤ 100000000) (h : isB l) : targumref1_scalar.f k e l (i : Int) = some (two (lit e) (l.drop i)) := by
  have hj : targumref1_scalar.f k e l (i : Int) = targumref1_scalar.j0 k e l (i : Int) e true := by
    unfold targumref1_scalar.f
    rcases he with rfl | rfl
    · rfl
    · rfl
  have ht : (e == 3) = lit e := by rcases he with rfl | rfl <;> rfl
  rw [hj]
  obtain ⟨k, rfl⟩ : ∃ j, k = j + 1 := ⟨k - 1, by omega⟩
  simp only [targumref1_scalar.j0, if_true, ht]
  have hd := h.drop i
  have few : (l.drop i).length < 2 → targumref1_unit.f k l (i : Int) 2 (lit e) = some (0, false) := fun hl => by
    rw [List.length_drop] at hl
    exact runit_few k l i 2 (by omega) (by omega) (by omega) _
  match hr : l.drop i, hd with
  | [], _ => rw [few (by rw [hr]; simp), Option.bind_some]; rfl
  | [a], _ => rw [few (by rw [hr]; simp), Option.bind_some]; rfl
  | a :: b :: r, hd =>
    have hlen := drop_length hr hi
    rw [List.length_cons, List.length_cons] at hlen
    rw [runit2 k (by omega) l i (by omega) (lit e) a b r hr hd, Option.bind_some]
    dsimp only
    have hr2 := u2_range (t := lit e) hd.head hd.tail.head
    rw [if_pos rfl, rIsScalar_eq, Option.bind_some, two_cons]
    obtain ⟨u, hu⟩ : ∃ u, u2 (lit e) a b = u := ⟨_, rfl⟩
    rw [hu] at hr2 ⊢
    by_cases hs : isScalar u = true
    · have hs' := of_decide_eq_true hs
      rw [if_pos hs, if_neg (by omega), if_pos hs]
    · have hs' : ¬ (0 ≤ u ∧ u ≤ 1114111 ∧ (u < 55296 ∨ 57343 < u)) := fun q => hs (decide_eq_true q)
      rw [if_neg hs, wrap_id (x := (i : Int) + 2) (by omega) (by omega), show (i : Int) + 2 = ((i + 2 : Nat) : Int) by omega]
      have hr' : l.drop (i + 2) = r := by rw [← List.drop_drop, hr]; rfl
      match r, hr', hd.tail.tail, hlen with
      | [], hr', _, hlen =>
        rw [runit_few k l (i + 2) 2 (by omega) (by simp only [List.length_nil] at hlen; omega) (by omega), Option.bind_some]
        dsimp only
        by_cases hq : u ≥ 56320
        · rw [if_pos hq, if_neg (by omega), if_neg hs]
        · rw [if_neg hq, if_neg Bool.false_ne_true, if_pos (by omega)]; rfl
      | [c], hr', _, hlen =>
        rw [runit_few k l (i + 2) 2 (by omega) (by simp only [List.length_cons, List.length_nil] at hlen; omega) (by omega), Option.bind_some]
        dsimp only
        by_cases hq : u ≥ 56320
        · rw [if_pos hq, if_neg (by omega), if_neg hs]
        · rw [if_neg hq, if_neg Bool.false_ne_true, if_pos (by omega)]; rfl
      | c :: d :: r, hr', hcd, hlen =>
        rw [runit2 k (by omega) l (i + 2) (by omega) (lit e) c d r hr' hcd, Option.bind_some]
        dsimp only
        have hv2 := u2_range (t := lit e) hcd.head hcd.tail.head
        rw [low_cons]
        obtain ⟨v, hv⟩ : ∃ v, u2 (lit e) c d = v := ⟨_, rfl⟩
        rw [hv] at hv2 ⊢
        by_cases hq : u ≥ 56320
        · rw [if_pos hq, if_neg (by omega), if_neg hs]
        · rw [if_neg hq, if_pos rfl, if_pos (show 55296 ≤ u ∧ u < 56320 by omega)]
          by_cases h1 : v < 56320
          · rw [if_pos h1, if_pos (.inl h1)]
          · rw [if_neg h1]
            by_cases h2 : v > 57343
            · rw [if_pos h2, if_pos (.inr (by omega))]
            · rw [if_neg h2, if_neg (by omega), wrap_id (x := u - 55296) (by omega) (by omega), wrap_id (x := (u - 55296) * 1024) (by omega) (by omega), wrap_id (x := 65536 + (u - 55296) * 1024) (by omega) (by omega), wrap_id (x := 65536 + (u - 55296) * 1024 + v) (by omega) (by omega), wrap_id (x := 65536 + (u - 55296) * 1024 + v - 56320) (by omega) (by omega)]
              congr 2; omega
/-- UTF-32 -/
theorem rscalar4 (k : Nat) (hk : 10 ≤ k) (e : Int) (he : e = 4 ∨ e = 5) (l : List Int) (i : Nat) (hi : i ≤ l.length) (hz : l.length ≤ 100000000) (h : isB l) : targumref1_scalar.f k e l (i : Int) = some (four (lit e) (l.drop i)) := by
  obtain ⟨k, rfl⟩ : ∃ j, k = j + 2 := ⟨k - 2, by omega⟩
  have hj : targumref1_scalar.f (k + 2) e l (i : Int) = targumref1_scalar.j1 (k + 1) e l (i : Int) true := by
    unfold targumref1_scalar.f
    rw [if_neg (by omega), beq_eq_false_iff_ne.2 (show e ≠ 3 by omega)]
    simp only [targumref1_scalar.j0, Bool.false_eq_true, if_false]
    rcases he with rfl | rfl
    · rw [if_pos rfl, beq_self_eq_true]
    · rw [if_neg (by omega), beq_self_eq_true]
  have ht : (e == 5) = lit e := by rcases he with rfl | rfl <;> rfl
  rw [hj]
  simp only [targumref1_scalar.j1, if_true, ht]
  have hd := h.drop i
  have few : (l.drop i).length < 4 → targumref1_unit.f k l (i : Int) 4 (lit e) = some (0, false) := fun hl => by
    rw [List.length_drop] at hl
    exact runit_few k l i 4 (by omega) (by omega) (by omega) _
  match hr : l.drop i, hd with
  | [], _ => rw [few (by rw [hr]; simp), Option.bind_some]; rfl
  | [a], _ => rw [few (by rw [hr]; simp), Option.bind_some]; rfl
  | [a, b], _ => rw [few (by rw [hr]; simp), Option.bind_some]; rfl
  | [a, b, c], _ => rw [few (by rw [hr]; simp), Option.bind_some]; rfl
  | a :: b :: c :: d :: r, hd =>
    rw [runit4 k (by omega) l i (by omega) (lit e) a b c d r hr hd, Option.bind_some]
    dsimp only
    rw [if_pos rfl, rIsScalar_eq, Option.bind_some]
    rw [four_cons]
    obtain ⟨u, hu⟩ : ∃ u, u4 (lit e) a b c d = u := ⟨_, rfl⟩
    rw [hu]
    by_cases hs : isScalar u = true
    · rw [if_pos hs, if_pos hs]
    · rw [if_neg hs, if_neg hs]
theorem nx_take4 (l : List UInt8) : nx (l.take 4) = nx l := by
  match l with
  | [] => rfl
  | [a] => rfl
  | [a, b] => rfl
  | [a, b, c] => rfl
  | a :: b :: c :: d :: r =>
    have e : ∀ n, 4 ≤ n → Lib.decodeN n a.toNat b.toNat c.toNat d.toNat = Lib.decodeN 4 a.toNat b.toNat c.toNat d.toNat := by
      intro n hn
      have c1 : (1 < n) = True := eq_true (by omega)
      have c2 : (2 < n) = True := eq_true (by omega)
      have c3 : (3 < n) = True := eq_true (by omega)
      have d1 : (1 < 4) = True := eq_true (by omega)
      have d2 : (2 < 4) = True := eq_true (by omega)
      have d3 : (3 < 4) = True := eq_true (by omega)
      simp only [Lib.decodeN, c1, c2, c3, d1, d2, d3]
    have f : ∀ (n : Nat) (q : List UInt8), nx (a :: b :: c :: d :: q) = if Lib.decodeN (q.length + 4) a.toNat b.toNat c.toNat d.toNat = (65533, 1) then (0, 0) else Lib.decodeN (q.length + 4) a.toNat b.toNat c.toNat d.toNat := fun n q => rfl
    rw [show (a :: b :: c :: d :: r).take 4 = [a, b, c, d] from rfl, f 0 r, f 0 [], e (r.length + 4) (by omega), e (([] : List UInt8).length + 4) (by simp)]
end Go.Proofs.YtmpdggphhhljhaaDoor.UtfSpec
