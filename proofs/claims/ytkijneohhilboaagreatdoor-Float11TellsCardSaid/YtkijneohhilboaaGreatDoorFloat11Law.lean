/- What the laws of chapter 7 have in common: the known answers, digits, a decimal's body. No conditions but sizes. -/
import Derived.Test.YtkijneohhilboaaGreatDoorFloatProg2
import Derived.Test.YtkijneohhilboaaGreatDoorPTx8
namespace Go.Proofs.YtkijneohhilboaaGreatDoor.FloatSpec
set_option linter.unusedSimpArgs false
set_option linter.unusedVariables false
open Go.RowKit Go.Lib Go.Proofs.YtkijneohhilboaaGreatDoor.Room Go.Proofs.YtkijneohhilboaaGreatDoor.PT Go.Proofs.YtkijneohhilboaaGreatDoorW.PrintWords Go.Proofs.YtkijneohhilboaaGreatDoor.Aid Go.Proofs.YtkijneohhilboaaGreatDoor.Num Go.Proofs.YtkijneohhilboaaGreatDoor.BigFns Go.Proofs.YtkijneohhilboaaGreatDoor.BigQ Go.Proofs.YtkijneohhilboaaGreatDoor.RefBig Go.Proofs.YtkijneohhilboaaGreatDoor.DecSpec Go.Proofs.YtkijneohhilboaaGreatDoor.NumSpec Go.Proofs.YtkijneohhilboaaGreatDoor.IntSpec Go.Proofs.YtkijneohhilboaaGreatDoor.FSix
theorem known7_at : targumlaw7_known.f 300 = some true := by decide +kernel
theorem known7 (k : Nat) (hk : 300 ≤ k) : targumlaw7_known.f k = some true := at_rounds targumlaw7_known.mono hk known7_at
theorem wordless {l : List UInt8} (h : ∀ x ∈ l.head?, x = 46 → ∃ y ∈ l.tail.head?, 48 ≤ y.toNat ∧ y.toNat ≤ 57) : infW l = false ∧ nanW l = false := by
  have key : ∀ w : List UInt8, (∃ y r, w = 46 :: y :: r ∧ ¬ (48 ≤ y.toNat ∧ y.toNat ≤ 57)) → (l == w) = false := by
    rintro w ⟨y, r, rfl, hy⟩
    refine beq_eq_false_iff_ne.2 (fun e => ?_)
    subst e
    obtain ⟨z, hz, hz'⟩ := h 46 rfl rfl
    have : z = y := (Option.some.inj (show some y = some z from hz)).symm
    subst this
    exact hy hz'
  unfold infW nanW
  rw [key [46, 105, 110, 102] ⟨_, _, rfl, by decide⟩, key [46, 73, 110, 102] ⟨_, _, rfl, by decide⟩, key [46, 73, 78, 70] ⟨_, _, rfl, by decide⟩, key [46, 110, 97, 110] ⟨_, _, rfl, by decide⟩, key [46, 78, 97, 78] ⟨_, _, rfl, by decide⟩, key [46, 78, 65, 78] ⟨_, _, rfl, by decide⟩]
  exact ⟨rfl, rfl⟩
theorem cut46_at (w r : List UInt8) (h : 46 ∉ w) : cut46 (w ++ 46 :: r) = some (w, r) := by
  rw [cut46_app w h]
  show some (w ++ [], r) = some (w, r)
  rw [List.append_nil]
/-- a text with a point -/
theorem float11_at (s w r : List UInt8) (hs : s = [] ∨ s = [43] ∨ s = [45]) (h46 : 46 ∉ w) (hh : ∀ x ∈ (w ++ 46 :: r).head?, x = 46 ∨ (48 ≤ x.toNat ∧ x.toNat ≤ 57)) (hr : w = [] → ∃ y ∈ r.head?, 48 ≤ y.toNat ∧ y.toNat ≤ 57) : float11 (s ++ (w ++ 46 :: r)) = dec11 (s == [45]) w r := by
  obtain ⟨x, q, hx⟩ : ∃ x q, w ++ 46 :: r = x :: q := by
    cases w with
    | nil => exact ⟨_, _, rfl⟩
    | cons a w => exact ⟨_, _, rfl⟩
  have hsg : sg (s ++ (w ++ 46 :: r)) = (s, w ++ 46 :: r) := by
    rcases hs with rfl | rfl | rfl
    · rw [List.nil_append, hx]
      unfold sg; dsimp only
      rw [if_neg]
      have := hh x (by rw [hx]; rfl)
      rintro (e | e) <;> (subst e; rcases this with q | q <;> revert q <;> decide)
    · exact sg_sign (.inl rfl) _
    · exact sg_sign (.inr rfl) _
  have hw := wordless (l := w ++ 46 :: r) (by
    intro x hx' h
    subst h
    cases w with
    | nil => exact hr rfl
    | cons a w => exact absurd (show a = 46 from Option.some.inj hx') (fun e => h46 (by simp [e])))
  unfold float11
  rw [hsg]
  dsimp only
  rw [hw.1, hw.2, if_neg Bool.false_ne_true, if_neg (fun q => Bool.false_ne_true q.1), cut46_at w r h46]
theorem tw_G (f t : List UInt8) (hf : ∀ x ∈ f, isG x = true) (ht : ∀ x ∈ t.head?, isG x = false) : (f ++ t).takeWhile isG = f ∧ (f ++ t).dropWhile isG = t := by
  have ht' : t.takeWhile isG = [] ∧ t.dropWhile isG = t := by
    cases t with
    | nil => exact ⟨rfl, rfl⟩
    | cons x r =>
      have := ht x rfl
      rw [List.takeWhile_cons, List.dropWhile_cons, this]
      exact ⟨rfl, rfl⟩
  rw [List.takeWhile_append_of_pos hf, List.dropWhile_append_of_pos hf, ht'.1, ht'.2, List.append_nil]
  exact ⟨rfl, rfl⟩
theorem isG_of {x : UInt8} (h : 48 ≤ x.toNat ∧ x.toNat ≤ 57) : isG x = true := by
  unfold isG
  rw [show isD x = true from decide_eq_true h]; rfl
theorem digs_G {l : List UInt8} (h : Digs l) : ∀ x ∈ l, isG x = true := fun x hx => isG_of (h x hx)
theorem digs_no {l : List UInt8} (h : Digs l) {c : UInt8} (hc : ¬ (48 ≤ c.toNat ∧ c.toNat ≤ 57)) : c ∉ l := fun q => hc (h c q)
/-- digits and _ ahead of a point and behind it -/
theorem dec11_plain (neg : Bool) (w f t : List UInt8) (hw : w ≠ []) (hd : ∃ x ∈ w.head?, 48 ≤ x.toNat ∧ x.toNat ≤ 57) (hwG : ∀ x ∈ w, isG x = true) (hf : ∀ x ∈ f, isG x = true) (ht : ∀ x ∈ t.head?, isG x = false) :
    dec11 neg w (f ++ t) = match expo11 t with | none => zero6 | some z => six5 (makeN neg (sift w ++ sift f) (z - (sift f).length)) 1 := by
  obtain ⟨e1, e2⟩ := tw_G f t hf ht
  obtain ⟨x, r, rfl⟩ : ∃ x r, w = x :: r := by
    cases w with
    | nil => exact absurd rfl hw
    | cons x r => exact ⟨x, r, rfl⟩
  obtain ⟨y, hy, hx⟩ := hd
  obtain rfl : x = y := Option.some.inj hy
  have hwh : whole11 (x :: r) = some (sift (x :: r), 1) := by
    have := whole_scan hx r [] (fun y hy => hwG y (by simp [hy])) (.inl rfl)
    rw [List.append_nil] at this
    exact this
  unfold dec11
  rw [e1, e2]
  cases expo11 t with
  | none => rfl
  | some z =>
    dsimp only
    rw [if_neg hw, hwh]
    dsimp only
    rw [if_neg (fun q : (1 : Int) = 3 ∧ _ => absurd q.1 (by decide))]
/-- nothing ahead of the point -/
theorem dec11_point (neg : Bool) (f t : List UInt8) (hf : ∀ x ∈ f, isG x = true) (ht : ∀ x ∈ t.head?, isG x = false) :
    dec11 neg [] (f ++ t) = match expo11 t with | none => zero6 | some z => if sift f = [] then zero6 else six5 (makeN neg (sift f) (z - (sift f).length)) 2 := by
  obtain ⟨e1, e2⟩ := tw_G f t hf ht
  unfold dec11
  rw [e1, e2]
  cases expo11 t with
  | none => rfl
  | some z => dsimp only; rw [if_pos rfl]
theorem makeN_zero (neg : Bool) (l : List UInt8) (x : Int) : (makeN neg l x).1 = 0 ∧ (makeN neg l x).2.2.2.2 = true := by
  unfold makeN
  split <;> exact ⟨rfl, rfl⟩
theorem eqD (a b : D5) (h : a = b) : (a.1 == b.1 && (a.2.1 == b.2.1 && (a.2.2.1.toList == b.2.2.1.toList && (a.2.2.2.1.toList == b.2.2.2.1.toList)))) = true := by
  rw [h, beq_self_eq_true, beq_self_eq_true, beq_self_eq_true, beq_self_eq_true]; rfl
end Go.Proofs.YtkijneohhilboaaGreatDoor.FloatSpec
