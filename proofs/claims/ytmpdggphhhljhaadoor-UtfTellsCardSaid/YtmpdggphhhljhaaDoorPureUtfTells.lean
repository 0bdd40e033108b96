/- UtfTells in plain words. -/
import Derived.Test.YtmpdggphhhljhaaDoorUtfLaw
import Derived.Test.YtmpdggphhhljhaaDoorPTx9
namespace Go.Proofs.YtmpdggphhhljhaaDoor.Pure
set_option linter.unusedSimpArgs false
set_option linter.unusedVariables false
open Go.RowKit Go.Proofs.YtmpdggphhhljhaaDoor.PT Go.Proofs.YtmpdggphhhljhaaDoorW.PrintWords Go.Proofs.YtmpdggphhhljhaaDoor.Aid Go.Proofs.YtmpdggphhhljhaaDoor.BrkFns Go.Proofs.YtmpdggphhhljhaaDoor.UtfSpec
theorem UtfTells : targumlaw1_UtfTells.Pure := by
  intro l s a h0 h1 hw hs ha
  have hB := isB_wf hw
  obtain ⟨K, hK⟩ : ∃ K, K = 4999 := ⟨_, rfl⟩
  refine ⟨K + 1, ?_⟩
  unfold targumlaw1_UtfTells.f
  rw [known1 _ (by omega), Option.bind_some, if_pos rfl]
  have J : targumlaw1_UtfTells.j0 (K + 1) l s a true = some true := by simp only [targumlaw1_UtfTells.j0, if_true]
  by_cases h : (l.length : Int) > 200
  · rw [if_pos h]; exact J
  rw [if_neg h]
  by_cases h2 : (s.size : Int) > 200
  · rw [decide_eq_true h2]; exact J
  rw [decide_eq_false h2]
  simp only [targumlaw1_UtfTells.j0]
  have hz : l.length ≤ 200 := by omega
  have hy : s.size ≤ 200 := by omega
  have bytes : ∀ x : List Int, targumhelp_Bytes.f x x = some true := fun x => by unfold targumhelp_Bytes.f; simp
  obtain ⟨e, he⟩ : ∃ e, wrap64 (1 + Int.tmod (wrap64 (Int.tmod a 5 + 5)) 5) = e := ⟨_, rfl⟩
  have siz : utf_Size.f K a s = some ((encS a s).length : Int) := by
    by_cases hr : 1 ≤ a ∧ a ≤ 5
    · exact Size_eq K a s (by omega) (by omega) hr
    · rw [Size_none K a s (by omega) (by omega) hr]
      have : encS a s = [] := by unfold encS; rw [if_neg (fun q => hr ⟨q.1, q.2.1⟩)]
      rw [this]; rfl
  rw [if_neg (by decide), he, Detect_eq K (by omega) l hB, Option.bind_some, rDetect_eq K (by omega) l hB (by omega), Option.bind_some, Decode_eq l hB (by omega) K (by omega), Option.bind_some, rDecode_eq l hB (by omega) K (by omega), Option.bind_some,
    if_pos rfl, if_pos rfl, if_pos (by simp), if_pos (by simp), Encode_eq K a s (by omega) (by omega), Option.bind_some, rEncode_eq K a s (by omega) (by omega), Option.bind_some, bytes, Option.bind_some, if_pos rfl, siz, Option.bind_some,
    rSize_eq K a s (by omega) (by omega), Option.bind_some, if_pos rfl, Encode_eq K e s (by omega) (by omega), Option.bind_some, rEncode_eq K e s (by omega) (by omega), Option.bind_some, bytes, Option.bind_some]
end Go.Proofs.YtmpdggphhhljhaaDoor.Pure
