/- Decimal numerals: their values; products and differences digit by digit; which numeral is whose. No conditions. -/
import Derived.Test.YtkijneohhilboaaGreatDoorBigLess
import Derived.Lib.SlTrimSet
namespace Go.Proofs.YtkijneohhilboaaGreatDoor.Num
set_option linter.unusedSimpArgs false
set_option linter.unusedVariables false
open Go.Lib Go.Proofs.YtkijneohhilboaaGreatDoor.Room
def dv (x : UInt8) : Nat := x.toNat - 48
/-- digits, the last one first: their number -/
def rv : List UInt8 → Nat
  | [] => 0
  | x :: r => dv x + 10 * rv r
def val (l : List UInt8) : Nat := rv l.reverse
def Digs (l : List UInt8) : Prop := ∀ x ∈ l, isDig x
theorem dv_lt {x : UInt8} (h : isDig x) : dv x < 10 := by unfold dv; have := h.2; omega
theorem val_nil : val [] = 0 := rfl
theorem val_snoc (l : List UInt8) (x : UInt8) : val (l ++ [x]) = dv x + 10 * val l := by
  unfold val; rw [List.reverse_append]; rfl
theorem rv_append : ∀ l m : List UInt8, rv (l ++ m) = rv l + 10 ^ l.length * rv m
  | [], m => by simp [rv]
  | x :: l, m => by
    rw [List.cons_append, rv, rv, rv_append l m, List.length_cons, Nat.pow_succ, Nat.mul_add, Nat.add_assoc, Nat.mul_comm (10 ^ l.length) 10, Nat.mul_assoc]
theorem val_append (l m : List UInt8) : val (l ++ m) = val m + 10 ^ m.length * val l := by
  unfold val; rw [List.reverse_append, rv_append, List.length_reverse]
theorem rv_lt : ∀ l : List UInt8, Digs l → rv l < 10 ^ l.length
  | [], _ => by simp [rv]
  | x :: l, h => by
    have h1 := dv_lt (h x (by simp))
    have h2 := rv_lt l (fun y hy => h y (by simp [hy]))
    rw [rv, List.length_cons, Nat.pow_succ]
    omega
theorem val_lt (l : List UInt8) (h : Digs l) : val l < 10 ^ l.length := by
  have := rv_lt l.reverse (fun x hx => h x (List.mem_reverse.1 hx))
  rwa [List.length_reverse] at this
theorem Digs.append {l m : List UInt8} (h : Digs l) (h' : Digs m) : Digs (l ++ m) := fun x hx => (List.mem_append.1 hx).elim (h x) (h' x)
theorem digit_of {n : Nat} (h : n < 10) : isDig (UInt8.ofNat (48 + n)) ∧ dv (UInt8.ofNat (48 + n)) = n := by
  have e : (UInt8.ofNat (48 + n)).toNat = 48 + n := by rw [UInt8.toNat_ofNat']; omega
  unfold isDig dv
  omega
theorem of_dv {x : UInt8} (h : isDig x) : UInt8.ofNat (48 + dv x) = x := by
  apply UInt8.toNat_inj.1
  obtain ⟨h0, h1⟩ := h
  rw [UInt8.toNat_ofNat']; unfold dv; omega
theorem digs_one {x : UInt8} (h : isDig x) : Digs [x] := fun y hy => by rw [List.mem_singleton.1 hy]; exact h
theorem dec_digs (u : Nat) : Digs (decDigits u) := by
  induction u using Nat.strongRecOn with
  | _ u ih =>
    by_cases h : u < 10
    · rw [decDigits, dif_pos h]; exact digs_one (digit_of h).1
    · rw [decDigits, dif_neg h]; exact (ih (u / 10) (by omega)).append (digs_one (digit_of (by omega)).1)
theorem dec_val (u : Nat) : val (decDigits u) = u := by
  induction u using Nat.strongRecOn with
  | _ u ih =>
    by_cases h : u < 10
    · rw [decDigits, dif_pos h, show [UInt8.ofNat (48 + u)] = [] ++ [UInt8.ofNat (48 + u)] from rfl, val_snoc, val_nil, (digit_of h).2]; omega
    · rw [decDigits, dif_neg h, val_snoc, ih (u / 10) (by omega), (digit_of (by omega)).2]; omega
theorem dec_inj {u v : Nat} (h : decDigits u = decDigits v) : u = v := by rw [← dec_val u, h, dec_val]
theorem dec_pos (u : Nat) : 0 < (decDigits u).length := by rw [decDigits_length]; exact nDigits_pos u
theorem dec_ne (u : Nat) : decDigits u ≠ [] := fun h => by have := dec_pos u; rw [h] at this; exact absurd this (by decide)
theorem dec_zero : decDigits 0 = [48] := by rw [decDigits, dif_pos (by decide)]; rfl
/-- a number above nought begins with no nought -/
theorem dec_head (u : Nat) (hu : 0 < u) : ∃ x r, decDigits u = x :: r ∧ x ≠ 48 := by
  induction u using Nat.strongRecOn with
  | _ u ih =>
    by_cases h : u < 10
    · refine ⟨UInt8.ofNat (48 + u), [], by rw [decDigits, dif_pos h], fun e => ?_⟩
      have := (digit_of h).2
      rw [e] at this
      have h0 : dv 48 = 0 := rfl
      omega
    · obtain ⟨x, r, e, hx⟩ := ih (u / 10) (by omega) (by omega)
      exact ⟨x, r ++ [UInt8.ofNat (48 + u % 10)], by rw [decDigits, dif_neg h, e]; rfl, hx⟩
/-- digits that begin with no nought are their number's numeral -/
theorem canon : ∀ (n : Nat) (l : List UInt8), l.length = n → Digs l → (∃ x r, l = x :: r ∧ x ≠ 48) → l = decDigits (val l)
  | 0, l, hn, _, ⟨x, r, e, _⟩ => by rw [e] at hn; simp at hn
  | n + 1, l, hn, hd, ⟨x, r, e, hx⟩ => by
    obtain ⟨l', y, rfl⟩ : ∃ l' y, l = l' ++ [y] := ⟨l.dropLast, l.getLast (by rw [e]; simp), (List.dropLast_concat_getLast (by rw [e]; simp)).symm⟩
    have hy : isDig y := hd y (by simp)
    have hl' : Digs l' := fun z hz => hd z (by simp [hz])
    rw [val_snoc]
    have hy9 := dv_lt hy
    cases l' with
    | nil =>
      rw [val_nil, Nat.mul_zero, Nat.add_zero, decDigits, dif_pos hy9, of_dv hy]
      rfl
    | cons z l'' =>
      have hz : z = x := by rw [List.cons_append] at e; exact (List.cons.inj e).1
      have ih := canon n (z :: l'') (by rw [List.length_append, List.length_singleton] at hn; omega) hl' ⟨z, l'', rfl, by rw [hz]; exact hx⟩
      have h0 : val (z :: l'') ≠ 0 := fun h => by
        rw [h, dec_zero] at ih
        rw [hz] at ih
        exact hx (List.cons.inj ih).1
      rw [decDigits, dif_neg (by omega), show (dv y + 10 * val (z :: l'')) / 10 = val (z :: l'') by omega, show (dv y + 10 * val (z :: l'')) % 10 = dv y by omega, of_dv hy, ← ih]
/-! ### products and differences -/
theorem tim_digs (m : Int) : ∀ (l : List UInt8) (c : Int), Digs (tim m l c).1
  | [], c => fun x hx => by cases hx
  | x :: r, c => by
    rw [tim]
    refine (tim_digs m r _).append (digs_one ?_)
    have e : (48 + (c + ((x.toNat : Int) - 48) * m) % 10).toNat = 48 + ((c + ((x.toNat : Int) - 48) * m) % 10).toNat := by omega
    rw [e]
    exact (digit_of (by omega)).1
theorem tim_val (m : Int) (hm : 0 ≤ m) : ∀ (l : List UInt8) (c : Int), Digs l → 0 ≤ c → (val (tim m l c).1 : Int) + 10 ^ l.length * (tim m l c).2 = (rv l : Int) * m + c
  | [], c, _, _ => by simp [tim, val_nil, rv]
  | x :: r, c, hl, hc => by
    have hx := hl x (by simp)
    have hd : ((x.toNat : Int) - 48) = (dv x : Int) := by have := hx.1; unfold dv; omega
    rw [tim, hd]
    have hs0 : 0 ≤ (dv x : Int) * m := Int.mul_nonneg (by omega) hm
    have ih := tim_val m hm r ((c + (dv x : Int) * m) / 10) (fun y hy => hl y (by simp [hy])) (by omega)
    have e : (48 + (c + (dv x : Int) * m) % 10).toNat = 48 + ((c + (dv x : Int) * m) % 10).toNat := by omega
    simp only
    rw [val_snoc, e, (digit_of (by omega)).2, rv, List.length_cons]
    generalize hC : (tim m r ((c + (dv x : Int) * m) / 10)).2 = C at ih ⊢
    generalize val (tim m r ((c + (dv x : Int) * m) / 10)).1 = V at ih ⊢
    have p1 : (10 : Int) ^ (r.length + 1) * C = 10 * (10 ^ r.length * C) := by rw [Int.pow_succ, Int.mul_comm (10 ^ r.length) 10, Int.mul_assoc]
    rw [p1]
    have p2 : (((dv x + 10 * rv r : Nat) : Int)) * m = (dv x : Int) * m + 10 * ((rv r : Int) * m) := by
      rw [show ((dv x + 10 * rv r : Nat) : Int) = (dv x : Int) + 10 * (rv r : Int) by omega, Int.add_mul, Int.mul_assoc]
    rw [p2]
    generalize (dv x : Int) * m = A at ih hs0 ⊢
    generalize (rv r : Int) * m = B at ih ⊢
    generalize (10 : Int) ^ r.length * C = D at ih ⊢
    omega
theorem timesL_digs (m c : Int) (l : List UInt8) : Digs (timesL m c l) := (dec_digs _).append (tim_digs m _ c)
theorem timesL_val (m c : Int) (hm : 0 ≤ m) (hm1 : m ≤ 1099511627776) (hc : 0 ≤ c) (hc1 : c ≤ 1099511627776) (l : List UInt8) (hl : Digs l) : (val (timesL m c l) : Int) = (val l : Int) * m + c := by
  have hr : Digs l.reverse := fun x hx => hl x (List.mem_reverse.1 hx)
  have h := tim_val m hm l.reverse c hr hc
  have hC := tim_carry m hm hm1 l.reverse c hr hc hc1
  unfold timesL
  rw [val_append, dec_val, tim_length, List.length_reverse]
  rw [List.length_reverse] at h
  unfold val at h ⊢
  rw [← h]
  rw [Int.natCast_add, Int.natCast_mul, Int.natCast_pow, Int.toNat_of_nonneg hC.1]
  rfl
theorem les_digs : ∀ (a b : List UInt8) (ow : Bool), Digs a → Digs b → Digs (les a b ow)
  | [], _, _, _, _ => fun x hx => by cases hx
  | x :: r, b, ow, ha, hb => by
    have hx := ha x (by simp)
    have hr : Digs r := fun y hy => ha y (by simp [hy])
    have hbt : Digs b.tail := fun y hy => hb y (List.mem_of_mem_tail hy)
    have ho : 0 ≤ owes b ow ∧ owes b ow ≤ 10 := by
      unfold owes
      have := ow_eq ow
      cases b with
      | nil => simp only; omega
      | cons y t => have h := hb y (by simp); have := h.1; have := h.2; simp only; omega
    obtain ⟨h0, h1⟩ := hx
    rw [les]
    split
    · refine (les_digs r _ _ hr hbt).append (digs_one ?_)
      rw [show ((x.toNat : Int) + 10 - owes b ow).toNat = 48 + ((x.toNat : Int) + 10 - owes b ow - 48).toNat by omega]
      exact (digit_of (by omega)).1
    · refine (les_digs r _ _ hr hbt).append (digs_one ?_)
      rw [show ((x.toNat : Int) - owes b ow).toNat = 48 + ((x.toNat : Int) - owes b ow - 48).toNat by omega]
      exact (digit_of (by omega)).1
theorem les_val : ∀ (a b : List UInt8) (ow : Bool), Digs a → Digs b → rv b + (if ow then 1 else 0) ≤ rv a → val (les a b ow) + (rv b + (if ow then 1 else 0)) = rv a
  | [], b, ow, _, _, h => by
    simp only [les, rv, val_nil] at h ⊢
    omega
  | x :: r, b, ow, ha, hb, h => by
    have hx := ha x (by simp)
    have hr : Digs r := fun y hy => ha y (by simp [hy])
    have hbt : Digs b.tail := fun y hy => hb y (List.mem_of_mem_tail hy)
    obtain ⟨T, hT, hTb, hT10⟩ : ∃ T : Nat, owes b ow = T ∧ rv b + (if ow then 1 else 0) = T + 10 * rv b.tail ∧ T ≤ 10 := by
      unfold owes
      cases b with
      | nil => refine ⟨if ow then 1 else 0, ?_, ?_, ?_⟩ <;> cases ow <;> simp [rv]
      | cons y t =>
        have hy := hb y (by simp)
        have h9 := dv_lt hy
        have e : (y.toNat : Int) - 48 = (dv y : Int) := by have := hy.1; unfold dv; omega
        refine ⟨(if ow then 1 else 0) + dv y, ?_, ?_, ?_⟩
        · simp only [e]; cases ow <;> simp
        · simp only [List.tail_cons, rv]; omega
        · cases ow <;> simp <;> omega
    rw [hTb] at h ⊢
    have hxd : (x.toNat : Int) = 48 + (dv x : Int) := by have := hx.1; unfold dv; omega
    have hx9 := dv_lt hx
    rw [rv] at h ⊢
    rw [les, hT]
    by_cases hlt : (x.toNat : Int) < 48 + (T : Int)
    · rw [if_pos hlt, val_snoc]
      have ih := les_val r b.tail true hr hbt (by simp only [if_true]; omega)
      simp only [if_true] at ih
      rw [show ((x.toNat : Int) + 10 - (T : Int)).toNat = 48 + (dv x + 10 - T) by omega, (digit_of (by omega)).2]
      omega
    · rw [if_neg hlt, val_snoc]
      have ih := les_val r b.tail false hr hbt (by simp only [Bool.false_eq_true, if_false]; omega)
      simp only [Bool.false_eq_true, if_false] at ih
      rw [show ((x.toNat : Int) - (T : Int)).toNat = 48 + (dv x - T) by omega, (digit_of (by omega)).2]
      omega
theorem lesL_val (a b : List UInt8) (ha : Digs a) (hb : Digs b) (h : val b ≤ val a) : val (lesL a b) = val a - val b := by
  have := les_val a.reverse b.reverse false (fun x hx => ha x (List.mem_reverse.1 hx)) (fun x hx => hb x (List.mem_reverse.1 hx)) (by simpa [val] using h)
  unfold lesL
  simp only [Bool.false_eq_true, if_false, Nat.add_zero] at this
  unfold val at h ⊢ this
  omega
theorem lesL_digs (a b : List UInt8) (ha : Digs a) (hb : Digs b) : Digs (lesL a b) := les_digs _ _ _ (fun x hx => ha x (List.mem_reverse.1 hx)) (fun x hx => hb x (List.mem_reverse.1 hx))
theorem les_length : ∀ (a b : List UInt8) (ow : Bool), (les a b ow).length = a.length
  | [], _, _ => rfl
  | x :: r, b, ow => by rw [les]; split <;> rw [List.length_append, les_length r] <;> rfl
/-! ### noughts ahead -/
theorem trim_nought : ∀ l : List UInt8, Digs l → val (trimLeftS l [48]) = val l ∧ Digs (trimLeftS l [48]) ∧ (trimLeftS l [48] = [] ∨ ∃ x r, trimLeftS l [48] = x :: r ∧ x ≠ 48) ∧ (trimLeftS l [48]).length ≤ l.length
  | [], h => ⟨rfl, h, Or.inl rfl, Nat.le_refl _⟩
  | x :: l, h => by
    have ih := trim_nought l (fun y hy => h y (by simp [hy]))
    unfold trimLeftS at ih ⊢
    by_cases hx : x = 48
    · subst hx
      rw [List.dropWhile_cons, if_pos (by decide)]
      refine ⟨?_, ih.2.1, ih.2.2.1, by have := ih.2.2.2; simp only [List.length_cons]; omega⟩
      rw [ih.1, show (48 :: l : List UInt8) = [48] ++ l from rfl, val_append, show val [48] = 0 from rfl, Nat.mul_zero, Nat.add_zero]
    · rw [List.dropWhile_cons, if_neg (by simp [hx])]
      exact ⟨rfl, h, Or.inr ⟨x, l, rfl, hx⟩, Nat.le_refl _⟩
end Go.Proofs.YtkijneohhilboaaGreatDoor.Num
