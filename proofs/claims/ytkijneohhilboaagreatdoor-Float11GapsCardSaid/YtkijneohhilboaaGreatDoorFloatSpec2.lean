/- Decimals of the old schema: the reference's Float11. No conditions but sizes. -/
import Derived.Test.YtkijneohhilboaaGreatDoorFloatSpec
namespace Go.Proofs.YtkijneohhilboaaGreatDoor.FloatSpec
set_option linter.unusedSimpArgs false
set_option linter.unusedVariables false
open Go.RowKit Go.Lib Go.Proofs.YtkijneohhilboaaGreatDoor.Room Go.Proofs.YtkijneohhilboaaGreatDoor.PK Go.Proofs.YtkijneohhilboaaGreatDoorW.PrintWords Go.Proofs.YtkijneohhilboaaGreatDoor.Aid Go.Proofs.YtkijneohhilboaaGreatDoor.Num Go.Proofs.YtkijneohhilboaaGreatDoor.BigFns Go.Proofs.YtkijneohhilboaaGreatDoor.BigQ Go.Proofs.YtkijneohhilboaaGreatDoor.RefBig Go.Proofs.YtkijneohhilboaaGreatDoor.DecSpec Go.Proofs.YtkijneohhilboaaGreatDoor.NumSpec Go.Proofs.YtkijneohhilboaaGreatDoor.IntSpec
theorem expo11_len {t : List UInt8} {z : Int} (h : expo11 t = some z) : (itoa z).length ≤ t.length + 2 := by
  cases t with
  | nil => obtain rfl := Option.some.inj (show some 0 = some z from h); rw [itoa_zero]; simp
  | cons x r =>
    have h' : (if (x = 101 ∨ x = 69) ∧ (sg r).1 ≠ [] ∧ okD (sg r).2 = true then some (sv r) else none) = some z := h
    split at h'
    · rename_i hc
      obtain rfl := Option.some.inj h'
      have h1 := sg_len r
      have h2 := dec_len_val _ ((okD_iff _).1 hc.2.2).1
      have h3 := itoa_len (sv r)
      have : (sv r).natAbs = val (sg r).2 := by unfold sv; split <;> omega
      rw [this] at h3
      rw [List.length_cons]; omega
    · cases h'
theorem whole11_ok {w d : List UInt8} {f : Int} (hw : w.length ≤ 100) (h : whole11 w = some (d, f)) : Digs d ∧ d ≠ [] ∧ d.length ≤ 1000 ∧ (f = 1 ∨ f = 3) := by
  unfold whole11 at h
  cases hf : firstD w with
  | false => rw [hf, if_neg Bool.false_ne_true] at h; cases h
  | true =>
    rw [hf, if_pos rfl] at h
    cases hb : bareL 10 w with
    | some d' =>
      rw [hb] at h
      obtain ⟨rfl, rfl⟩ := Prod.mk.inj (Option.some.inj (show some (d', 1) = some (d, f) from h))
      obtain ⟨e1, e2, e3, e4⟩ := bareL_ok hb
      have := sift_len w
      exact ⟨goodB_digs e4, e3, by rw [e1]; omega, .inl rfl⟩
    | none =>
      rw [hb] at h
      have h : (six w).map (fun n => (decDigits n, (3 : Int))) = some (d, f) := h
      obtain ⟨n, hn, e⟩ := Option.map_eq_some_iff.1 h
      obtain ⟨rfl, rfl⟩ := Prod.mk.inj e
      exact ⟨dec_digs n, dec_ne n, six_lim hw hn, .inr rfl⟩
end Go.Proofs.YtkijneohhilboaaGreatDoor.FloatSpec
