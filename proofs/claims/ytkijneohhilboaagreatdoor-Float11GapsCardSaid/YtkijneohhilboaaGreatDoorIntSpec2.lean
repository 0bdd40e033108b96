/- Whole numbers of the old schema: the reference's parts of sixty, and its Int11. No conditions but sizes. -/
import Derived.Test.YtkijneohhilboaaGreatDoorIntSpec
namespace Go.Proofs.YtkijneohhilboaaGreatDoor.IntSpec
set_option linter.unusedSimpArgs false
set_option linter.unusedVariables false
open Go.RowKit Go.Lib Go.Proofs.YtkijneohhilboaaGreatDoor.Room Go.Proofs.YtkijneohhilboaaGreatDoor.PK Go.Proofs.YtkijneohhilboaaGreatDoorW.PrintWords Go.Proofs.YtkijneohhilboaaGreatDoor.Aid Go.Proofs.YtkijneohhilboaaGreatDoor.Num Go.Proofs.YtkijneohhilboaaGreatDoor.BigFns Go.Proofs.YtkijneohhilboaaGreatDoor.BigQ Go.Proofs.YtkijneohhilboaaGreatDoor.RefBig Go.Proofs.YtkijneohhilboaaGreatDoor.DecSpec Go.Proofs.YtkijneohhilboaaGreatDoor.NumSpec
def sixO (o : Option Nat) : ByteArray × Bool := match o with | some m => (num m, true) | none => (⟨#[]⟩, false)
/-- what is left, from a colon on -/
def restW : List UInt8 → Nat → Option Nat
  | [], n => some n
  | _ :: q, n => sixW (cols q) n
theorem span58 (q : List UInt8) : (58 ∉ q ∧ cols q = [q]) ∨ ∃ p r, q = p ++ 58 :: r ∧ 58 ∉ p ∧ cols q = p :: cols r ∧ findL 58 q = p.length := by
  by_cases h : 58 ∈ q
  · right
    obtain ⟨p, r, e, hp⟩ : ∃ p r, q = p ++ 58 :: r ∧ 58 ∉ p := by
      induction q with
      | nil => cases h
      | cons x q ih =>
        by_cases hx : x = 58
        · exact ⟨[], q, by rw [hx]; rfl, by simp⟩
        · rcases List.mem_cons.1 h with e | e
          · exact absurd e.symm hx
          · obtain ⟨p, r, e, hp⟩ := ih e
            refine ⟨x :: p, r, by rw [e]; rfl, fun q => ?_⟩
            rcases List.mem_cons.1 q with e | e
            · exact hx e.symm
            · exact hp e
    refine ⟨p, r, e, hp, (cols_head q).2 p r e hp, ?_⟩
    unfold findL
    rw [if_pos h, e, List.takeWhile_append_of_pos (fun y hy => bne_iff_ne.2 (fun e' => hp (by rw [← e']; exact hy))), List.takeWhile_cons, if_neg (by decide), List.append_nil]
  · exact .inl ⟨h, (cols_head q).1 h⟩
theorem okPart_len {p : List UInt8} (h : okPart p = true) : p.length ≤ 2 := by
  unfold okPart at h
  simp only [Bool.and_eq_true, Bool.or_eq_true, decide_eq_true_eq, beq_iff_eq] at h
  omega
theorem okPart_digs {p : List UInt8} (h : okPart p = true) : Digs p ∧ p ≠ [] := by
  unfold okPart at h
  exact (okD_iff _).1 (Bool.and_eq_true _ _ ▸ h).1
/-- the number and the form of a text without a sign -/
def core11 (t : List UInt8) : Option (Nat × Int) :=
  if t.take 2 = [48, 98] then (bareL 2 (t.drop 2)).map fun d => (bval 2 d, 1) else
  if t.take 2 = [48, 120] then (bareL 16 (t.drop 2)).map fun d => (bval 16 d, 2) else
  if t = [48] then some (0, 4) else
  if t.head? = some 48 then (bareL 8 (t.drop 1)).map fun d => (bval 8 d, 3) else
  if (∃ x ∈ t.head?, 49 ≤ x.toNat ∧ x.toNat ≤ 57) then (match bareL 10 t with | some d => some (val d, 5) | none => (six t).map fun n => (n, 6)) else none
def int11 (l : List UInt8) : ByteArray × Int := match core11 (sg l).2 with
  | some (n, f) => (num (if ((sg l).1 == [45]) = true then -(n : Int) else (n : Int)), f)
  | none => (⟨#[]⟩, 0)
def intO (neg : Bool) (o : Option (Nat × Int)) : ByteArray × Int := match o with
  | some (n, f) => (num (if neg = true then -(n : Int) else (n : Int)), f)
  | none => (⟨#[]⟩, 0)
theorem rNorm_num (neg : Bool) (n : Nat) (hn : (decDigits n).length ≤ 1000) (k : Nat) (hk : 2000 ≤ k) : targumref4_Norm.f k neg (num (n : Int)) = some (num (if neg = true then -(n : Int) else (n : Int))) := by
  rw [num_nat, rNorm_any neg _ (by omega) k (by omega), (okD_iff _).2 ⟨dec_digs n, dec_ne n⟩, if_pos rfl, dec_val]
theorem sixW_lim : ∀ (ps : List (List UInt8)) (n m : Nat), sixW ps n = some m → m + 1 ≤ (n + 1) * 100 ^ ps.length
  | [], n, m, h => by obtain rfl := Option.some.inj (show some n = some m from h); simp
  | p :: ps, n, m, h => by
    unfold sixW at h
    split at h
    · rename_i hp
      have ih := sixW_lim ps _ m h
      have hd := okPart_digs hp
      have hv := val_lt p hd.1
      have ha : (10 : Nat) ^ p.length ≤ 10 ^ 2 := Nat.pow_le_pow_right (by decide) (okPart_len hp)
      have h100 : (10 : Nat) ^ 2 = 100 := by decide
      have h1 : n * 60 + val p + 1 ≤ (n + 1) * 100 := by omega
      have h2 := Nat.mul_le_mul_right (100 ^ ps.length) h1
      rw [List.length_cons, Nat.pow_succ, Nat.mul_comm (100 ^ ps.length) 100, ← Nat.mul_assoc]
      exact Nat.le_trans ih h2
    · cases h
theorem cols_len : ∀ l : List UInt8, (cols l).length ≤ l.length + 1 := by
  intro l
  induction l with
  | nil => exact Nat.le_refl 1
  | cons x r ih =>
    unfold cols
    split
    · simp only [List.length_cons]; omega
    · split
      · rename_i h; rw [h] at ih; simp only [List.length_cons] at ih ⊢; omega
      · simp only [List.length_cons, List.length_nil]; omega
theorem cols_parts : ∀ l : List UInt8, ∀ p ∈ cols l, p.length ≤ l.length := by
  intro l
  induction l with
  | nil => intro p hp; simp [cols] at hp; subst hp; exact Nat.le_refl 0
  | cons x r ih =>
    intro p hp
    unfold cols at hp
    split at hp
    · rcases List.mem_cons.1 hp with rfl | hp
      · simp
      · have := ih p hp; rw [List.length_cons]; omega
    · split at hp
      · rename_i q ps h
        rcases List.mem_cons.1 hp with rfl | hp
        · have := ih q (by rw [h]; simp); simp only [List.length_cons]; omega
        · have := ih p (by rw [h]; simp [hp]); rw [List.length_cons]; omega
      · rw [List.mem_singleton] at hp; subst hp; simp
theorem six_lim {t : List UInt8} {n : Nat} (ht : t.length ≤ 100) (h : six t = some n) : (decDigits n).length ≤ 1000 := by
  unfold six at h
  have hcl := cols_len t
  have hcp := cols_parts t
  generalize cols t = ps at h hcl hcp
  match ps, h, hcl, hcp with
  | p :: q :: ps, h, hcl, hcp =>
    have h' : (if firstD p = true then (match bareL 10 p with | some d => sixW (q :: ps) (val d) | none => none) else none) = some n := h
    cases hf : firstD p with
    | false => rw [hf, if_neg Bool.false_ne_true] at h'; cases h'
    | true =>
      rw [hf, if_pos rfl] at h'
      cases hd : bareL 10 p with
      | none => rw [hd] at h'; cases h'
      | some d =>
        rw [hd] at h'
        dsimp only at h'
        obtain ⟨e1, e2, e3, e4⟩ := bareL_ok hd
        have hp := hcp p (by simp)
        have hdl : d.length ≤ p.length := by rw [e1]; exact sift_len _
        have hv := val_lt d (goodB_digs e4)
        have h1 := sixW_lim _ _ _ h'
        have h2 : (10 : Nat) ^ d.length ≤ 10 ^ 100 := Nat.pow_le_pow_right (by decide) (by omega)
        have h3 : (100 : Nat) ^ (q :: ps).length ≤ 100 ^ 101 := Nat.pow_le_pow_right (by decide) (by rw [List.length_cons] at hcl; omega)
        have h4 : (val d + 1) * 100 ^ (q :: ps).length ≤ 10 ^ 100 * 100 ^ 101 := Nat.mul_le_mul (by omega) h3
        have h5 : (10 : Nat) ^ 100 * 100 ^ 101 ≤ 10 ^ (999 + 1) := by decide +kernel
        have h6 : n < 10 ^ (999 + 1) := Nat.lt_of_lt_of_le (Nat.lt_of_lt_of_le (Nat.lt_succ_self n) h1) (Nat.le_trans h4 h5)
        rw [decDigits_length]
        exact nDigits_le 999 _ h6
  | [], h, _, _ => cases h
  | [p], h, _, _ => cases h
end Go.Proofs.YtkijneohhilboaaGreatDoor.IntSpec
