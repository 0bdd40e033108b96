/- Whole numbers of the old schema: int11.Form tells the reference's form. No conditions but sizes. -/
import Derived.Test.YtkijneohhilboaaDoorIntProg
namespace Go.Proofs.YtkijneohhilboaaDoor.IntSpec
set_option linter.unusedSimpArgs false
set_option linter.unusedVariables false
open Go.RowKit Go.Lib Go.Proofs.YtkijneohhilboaaDoor.Room Go.Proofs.YtkijneohhilboaaDoor.PV Go.Proofs.YtkijneohhilboaaDoorW.PrintWords Go.Proofs.YtkijneohhilboaaDoor.Aid Go.Proofs.YtkijneohhilboaaDoor.Num Go.Proofs.YtkijneohhilboaaDoor.BigFns Go.Proofs.YtkijneohhilboaaDoor.BigQ Go.Proofs.YtkijneohhilboaaDoor.RefBig Go.Proofs.YtkijneohhilboaaDoor.DecSpec Go.Proofs.YtkijneohhilboaaDoor.NumSpec Go.Proofs.YtkijneohhilboaaDoor.Jump
theorem dig_facts {x : UInt8} (h : 48 ≤ x.toNat ∧ x.toNat ≤ 57) : digV x < 10 ∧ x ≠ 95 ∧ x ≠ 58 := by
  refine ⟨by unfold digV; rw [if_pos h]; omega, fun e => ?_, fun e => ?_⟩
  · subst e; exact absurd h.2 (by decide)
  · subst e; exact absurd h.2 (by decide)
theorem okG_dig {x : UInt8} (h : 48 ≤ x.toNat ∧ x.toNat ≤ 57) (r : List UInt8) : okG 10 (x :: r) = okG 10 r := by
  rw [okG_cons, decide_eq_true (dig_facts h).1, Bool.or_true, Bool.true_and]
theorem sift_dig {x : UInt8} (h : 48 ≤ x.toNat ∧ x.toNat ≤ 57) (r : List UInt8) : sift (x :: r) = x :: sift r := by
  rw [sift_cons, if_neg (dig_facts h).2.1]
theorem bareL_dig {x : UInt8} (h : 48 ≤ x.toNat ∧ x.toNat ≤ 57) (r : List UInt8) : bareL 10 (x :: r) = if okG 10 r = true then some (x :: sift r) else none := by
  unfold bareL
  rw [okG_dig h, sift_dig h]
  by_cases ho : okG 10 r = true
  · rw [if_pos ⟨ho, by simp⟩, if_pos ho]
  · rw [if_neg (fun q => ho q.1), if_neg ho]
theorem six_of {x : UInt8} (h : 48 ≤ x.toNat ∧ x.toNat ≤ 57) {r p q : List UInt8} (e : r = p ++ 58 :: q) (hp : 58 ∉ p) : six (x :: r) = if okG 10 p = true then sixW (cols q) (val (x :: sift p)) else none := by
  have hP : 58 ∉ x :: p := fun q => by
    rcases List.mem_cons.1 q with e | e
    · exact (dig_facts h).2.2 e.symm
    · exact hp e
  obtain ⟨q0, qs, hq⟩ : ∃ q0 qs, cols q = q0 :: qs := by
    cases hc : cols q with
    | nil => exact absurd hc (cols_ne q)
    | cons a b => exact ⟨a, b, rfl⟩
  unfold six
  rw [(cols_head (x :: r)).2 (x :: p) q (by rw [e]; rfl) hP, hq]
  show (if firstD (x :: p) = true then (match bareL 10 (x :: p) with | some d => sixW (q0 :: qs) (val d) | none => none) else none) = _
  rw [show firstD (x :: p) = true from decide_eq_true h, if_pos rfl, bareL_dig h]
  cases okG 10 p with
  | true => rw [if_pos rfl, if_pos rfl]
  | false => rw [if_neg Bool.false_ne_true, if_neg Bool.false_ne_true]
theorem six_none {x : UInt8} (h : 48 ≤ x.toNat ∧ x.toNat ≤ 57) {r : List UInt8} (hr : 58 ∉ r) : six (x :: r) = none := by
  have hP : 58 ∉ x :: r := fun q => by
    rcases List.mem_cons.1 q with e | e
    · exact (dig_facts h).2.2 e.symm
    · exact hr e
  unfold six
  rw [(cols_head (x :: r)).1 hP]; rfl
def formT (t : List UInt8) : Int := match core11 t with | some p => p.2 | none => 0
theorem int11_form (l : List UInt8) : (int11 l).2 = formT (sg l).2 := by
  unfold int11 formT
  cases core11 (sg l).2 with
  | none => rfl
  | some p => rfl
theorem first_form {x : UInt8} (h : 49 ≤ x.toNat ∧ x.toNat ≤ 57) (r : List UInt8) : moreF r = match (match bareL 10 (x :: r) with | some d => some (val d, (5 : Int)) | none => (six (x :: r)).map fun n => (n, 6)) with | some p => p.2 | none => 0 := by
  have hx : 48 ≤ x.toNat ∧ x.toNat ≤ 57 := ⟨by omega, h.2⟩
  obtain ⟨m1, m2, m3⟩ := more_eq r
  rw [bareL_dig hx]
  cases ho : okG 10 r with
  | true => rw [m1 ho, if_pos rfl]
  | false =>
    rw [if_neg Bool.false_ne_true]
    dsimp only
    by_cases he : ∃ p q, r = p ++ 58 :: q ∧ 58 ∉ p ∧ okG 10 p = true ∧ (cols q).all okPart = true
    · rw [m2 ho he]
      obtain ⟨p, q, e, hp, hop, hq⟩ := he
      rw [six_of hx e hp, if_pos hop]
      have := sixW_some (cols q) (val (x :: sift p))
      rw [hq] at this
      obtain ⟨n, hn⟩ := Option.isSome_iff_exists.1 this
      rw [hn]; rfl
    · rw [m3 ho he]
      have hn : six (x :: r) = none := by
        rcases span58 r with ⟨h1, _⟩ | ⟨p, q, e, hp, _, _⟩
        · exact six_none hx h1
        · rw [six_of hx e hp]
          by_cases hop : okG 10 p = true
          · rw [if_pos hop]
            cases hs : sixW (cols q) (val (x :: sift p)) with
            | none => rfl
            | some n =>
              exfalso
              apply he
              have := sixW_some (cols q) (val (x :: sift p))
              rw [hs] at this
              exact ⟨p, q, e, hp, hop, this.symm⟩
          · rw [if_neg hop]
      rw [hn]; rfl
theorem formM_eq (t : List UInt8) : formM (headT t).1 (headT t).2.1 (headT t).2.2 t = formT t := by
  have bare2 : ∀ (B : Nat) (f : Int) (r : List UInt8), (B = 2 ∨ B = 16 ∨ B = 8 ∨ B = 10) → rowF f (dsOf B) false r = match (bareL B r).map (fun d => (bval B d, f)) with | some p => p.2 | none => 0 := fun B f r hB => by
    rw [row_bareL B hB]
    cases bareL B r <;> rfl
  unfold headT formT core11
  by_cases h1 : t.take 2 = [48, 98]
  · rw [if_pos h1, if_pos h1]
    exact bare2 2 1 (t.drop 2) (.inl rfl)
  · rw [if_neg h1, if_neg h1]
    by_cases h2 : t.take 2 = [48, 120]
    · rw [if_pos h2, if_pos h2]
      exact bare2 16 2 (t.drop 2) (.inr (.inl rfl))
    · rw [if_neg h2, if_neg h2]
      by_cases h3 : t = [48]
      · rw [if_pos h3, if_pos h3]; rfl
      · rw [if_neg h3, if_neg h3]
        by_cases h4 : t.head? = some 48
        · rw [if_pos h4, if_pos h4]
          exact bare2 8 3 (t.drop 1) (.inr (.inr (.inl rfl)))
        · rw [if_neg h4, if_neg h4]
          show firstF t = _
          cases t with
          | nil => rfl
          | cons x r =>
            show (if x.toNat < 49 ∨ 57 < x.toNat then 0 else moreF r) = _
            by_cases hx : 49 ≤ x.toNat ∧ x.toNat ≤ 57
            · rw [if_neg (by omega), if_pos ⟨x, by simp, hx⟩]
              exact first_form hx r
            · rw [if_pos (by omega), if_neg (fun ⟨y, hy, hy2⟩ => hx (by rw [show x = y by simpa using hy]; exact hy2))]
theorem headT_at (t : List UInt8) : (headT t).2.2 ≤ t.length ∧ ((headT t).1 = 5 → (headT t).2.2 = 0) := by
  have h2 : ∀ a b : UInt8, t.take 2 = [a, b] → 2 ≤ t.length := fun a b h => by
    have := congrArg List.length h
    rw [List.length_take] at this
    simp at this; omega
  unfold headT
  by_cases h1 : t.take 2 = [48, 98]
  · rw [if_pos h1]; exact ⟨h2 _ _ h1, fun h => absurd h (by decide)⟩
  · rw [if_neg h1]
    by_cases h2' : t.take 2 = [48, 120]
    · rw [if_pos h2']; exact ⟨h2 _ _ h2', fun h => absurd h (by decide)⟩
    · rw [if_neg h2']
      by_cases h3 : t = [48]
      · rw [if_pos h3, h3]; exact ⟨Nat.le_refl 1, fun h => absurd h (by decide)⟩
      · rw [if_neg h3]
        by_cases h4 : t.head? = some 48
        · rw [if_pos h4]
          refine ⟨?_, fun h => absurd h (by decide)⟩
          cases t with
          | nil => cases h4
          | cons x r => simp
        · rw [if_neg h4]; exact ⟨Nat.zero_le _, fun _ => rfl⟩
theorem Form_eq (l : List UInt8) (hl : l.length ≤ 100000) : int11_Form.f (txt l) = some (int11 l).2 := by
  have hsl := sg_len l
  obtain ⟨a1, a2⟩ := headT_at (sg l).2
  unfold int11_Form.f
  rw [unsigned_eq]
  simp only [Option.bind_some]
  rw [head_eq]
  simp only [Option.bind_some, txt_size, txt_list, Int.toNat_natCast]
  rw [if_pos ⟨by omega, by omega, by omega, fun h => by rw [a2 h]; rfl⟩, formM_eq, int11_form]
end Go.Proofs.YtkijneohhilboaaDoor.IntSpec
