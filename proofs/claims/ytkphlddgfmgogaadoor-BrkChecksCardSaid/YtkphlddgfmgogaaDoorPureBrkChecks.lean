/- The pure law BrkChecks: two texts together have the first one's first wrong sign, else the second one's. No conditions. -/
import Derived.Test.YtkphlddgfmgogaaDoorBrkFns
import Derived.Test.YtkphlddgfmgogaaDoorPBx6
namespace Go.Proofs.YtkphlddgfmgogaaDoor.Pure
open Go.RowKit Go.Proofs.YtkphlddgfmgogaaDoor.PB Go.Proofs.YtkphlddgfmgogaaDoorW.PrintWords Go.Proofs.YtkphlddgfmgogaaDoor.Aid Go.Proofs.YtkphlddgfmgogaaDoor.BrkFns

theorem known2 (k : Nat) (hk : 60 ≤ k) : targumlaw2_known.f k = some true := at_rounds targumlaw2_known.mono hk (by decide +kernel)

theorem BrkChecks : targumlaw2_BrkChecks.Pure := by
  intro s t hs ht
  by_cases hbig : (s.size : Int) > 300 ∨ (t.size : Int) > 300
  · refine ⟨61, ?_⟩
    unfold targumlaw2_BrkChecks.f
    rw [known2 _ (by omega)]
    simp only [Option.bind_some, if_true]
    by_cases h1 : (s.size : Int) > 300
    · rw [if_pos h1]; rfl
    · rw [if_neg h1, decide_eq_true (by omega)]; rfl
  · refine ⟨1001, ?_⟩
    unfold targumlaw2_BrkChecks.f
    rw [known2 _ (by omega)]
    simp only [Option.bind_some, if_true]
    have hst : (s ++ t).data.toList = s.data.toList ++ t.data.toList := append_list s t
    have hz : (s ++ t).size = s.size + t.size := ByteArray.size_append
    rw [if_neg (by omega), decide_eq_false (by omega), targumlaw2_BrkChecks.j0, if_neg (by decide), Check_eq s (by omega) _ (by omega), Check_eq t (by omega) _ (by omega), Well_eq s (by omega) _ (by omega), Check_eq (s ++ t) (by omega) _ (by omega), hst]
    simp only [Option.bind_some]
    have r1 := chkF_range s.data.toList.length s.data.toList 0 (Nat.le_refl _) (by omega)
    have r2 := chkF_range t.data.toList.length t.data.toList 0 (Nat.le_refl _) (by omega)
    rw [← Lib.size_eq] at r1 r2
    change chk s.data.toList = -1 ∨ 0 ≤ chk s.data.toList ∧ chk s.data.toList < 0 + s.size at r1
    change chk t.data.toList = -1 ∨ 0 ≤ chk t.data.toList ∧ chk t.data.toList < 0 + t.size at r2
    by_cases c1 : chk s.data.toList ≥ 0
    · rw [if_pos c1, if_pos (by omega)]
      cases hw : well s.data.toList
      · simp
      · rw [if_pos rfl, if_pos (by omega), chk_append_some t.data.toList (by omega) hw]
        simp
    · rw [if_neg c1]
      by_cases c2 : chk t.data.toList ≥ 0
      · rw [if_pos c2, if_pos (by omega), chk_append_none t.data.toList (by omega), chkF_at t.data.toList _ (by omega), ← Lib.size_eq, if_neg (by omega), wrap_id (by omega) (by omega)]
        simp
      · rw [if_neg c2, if_pos (by omega), chk_append_none t.data.toList (by omega), chkF_at t.data.toList _ (by omega), if_pos (by omega)]
        simp only [Option.some.injEq, beq_iff_eq]
        omega
end Go.Proofs.YtkphlddgfmgogaaDoor.Pure
