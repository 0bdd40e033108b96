/- The pure law DecBack: what may be is read back from its print; what is read has just that print. No conditions. -/
import Derived.Test.YtddaggnomcoejaaDoorDecLaw
import Derived.Test.YtddaggnomcoejaaDoorPDx11
namespace Go.Proofs.YtddaggnomcoejaaDoor.Pure
set_option linter.unusedSimpArgs false
set_option linter.unusedVariables false
open Go.RowKit Go.Lib Go.Proofs.YtddaggnomcoejaaDoor.Room Go.Proofs.YtddaggnomcoejaaDoor.PD Go.Proofs.YtddaggnomcoejaaDoorW.PrintWords Go.Proofs.YtddaggnomcoejaaDoor.Aid Go.Proofs.YtddaggnomcoejaaDoor.Num Go.Proofs.YtddaggnomcoejaaDoor.BigFns Go.Proofs.YtddaggnomcoejaaDoor.BigQ Go.Proofs.YtddaggnomcoejaaDoor.RefBig Go.Proofs.YtddaggnomcoejaaDoor.DecSpec
theorem back_j1 (s : ByteArray) (hs : s.size ≤ 150) (k : Nat) (hk : 100000 ≤ k) : targumlaw5_DecBack.j1 (k + 1) s false = some true := by
  obtain ⟨p, p1, _, pT⟩ := parse_both s (by omega) k (by omega)
  simp only [targumlaw5_DecBack.j1, Bool.false_eq_true, if_false]
  rw [p1]
  simp only [Option.bind_some]
  have hz : s.data.toList.length = s.size := (Lib.size_eq s).symm
  rcases pT with ⟨K, neg, d, e, g, hl, rfl⟩ | ⟨_, rfl⟩
  · have hlen : d.length ≤ 150 ∧ e.length ≤ 150 := by
      have h := cand_print g
      have h2 := cand_len (printL K neg d e)
      rw [h, ← hl, hz] at h2
      simp only at h2
      omega
    obtain ⟨b, b1, _, b3⟩ := goods_both K neg (txt d) (txt e) (by rw [txt_size]; omega) (by rw [txt_size]; omega) k (by omega)
    obtain ⟨q, q1, _, q3⟩ := prints_both K neg (txt d) (txt e) (by rw [txt_size]; omega) (by rw [txt_size]; omega) k (by omega)
    simp only [if_true]
    rw [b1, b3.2 g]
    simp only [Option.bind_some, if_true]
    rw [q1]
    simp only [Option.bind_some]
    rcases q3 with ⟨_, rfl⟩ | ⟨hn, _⟩
    · congr 1
      rw [beq_iff_eq, txt_toList, Lib.toList_data, hl]
      rfl
    · exact absurd g hn
  · unfold zeroD
    have e0 : (⟨#[]⟩ : ByteArray).toList = [] := by rw [Lib.toList_data]
    simp only [Bool.false_eq_true, if_false, e0]
    rfl
theorem DecBack : targumlaw5_DecBack.Pure := by
  intro K neg dg ex s hK hd he hs
  refine ⟨100003, ?_⟩
  unfold targumlaw5_DecBack.f
  rw [known5 _ (by decide)]
  simp only [Option.bind_some, if_true]
  have J1 : targumlaw5_DecBack.j0 (100002 + 1) s true K neg dg ex = some true := by simp only [targumlaw5_DecBack.j0, if_true]
  by_cases c1 : (dg.size : Int) > 60
  · rw [if_pos c1]; exact J1
  · rw [if_neg c1]
    by_cases c2 : (ex.size : Int) > 60
    · rw [if_pos c2]; exact J1
    · rw [if_neg c2]
      by_cases c3 : (s.size : Int) > 150
      · rw [decide_eq_true c3]; exact J1
      · rw [decide_eq_false c3]
        obtain ⟨k, hk⟩ : ∃ k, k = 100001 := ⟨_, rfl⟩
        show targumlaw5_DecBack.j0 (100001 + 1 + 1) s false K neg dg ex = some true
        rw [← hk]
        have hd' : dg.data.toList.length = dg.size := (Lib.size_eq dg).symm
        have he' : ex.data.toList.length = ex.size := (Lib.size_eq ex).symm
        obtain ⟨g, g1, _, g3⟩ := goods_both K neg dg ex (by omega) (by omega) (k + 1) (by omega)
        obtain ⟨q, q1, _, q3⟩ := prints_both K neg dg ex (by omega) (by omega) (k + 1) (by omega)
        have hl := printL_len K neg dg.data.toList ex.data.toList
        have hq : q.size ≤ 200 := by
          rcases q3 with ⟨_, rfl⟩ | ⟨_, rfl⟩
          · rw [txt_size]; omega
          · exact Nat.zero_le _
        obtain ⟨p, p1, _, pT⟩ := parse_both q (by omega) (k + 1) (by omega)
        have fin := back_j1 s (by omega) k (by omega)
        simp only [targumlaw5_DecBack.j0, Bool.false_eq_true, if_false]
        rw [q1]
        simp only [Option.bind_some]
        rw [p1]
        simp only [Option.bind_some]
        rw [g1]
        simp only [Option.bind_some]
        rcases q3 with ⟨hg, rfl⟩ | ⟨hg, rfl⟩
        · have hp : p = (K, neg, txt dg.data.toList, txt ex.data.toList, true) := parseT_one pT (.inl ⟨K, neg, _, _, hg, rfl, rfl⟩)
          subst hp
          rw [g3.2 hg]
          simp only [bne_self_eq_false, Bool.false_eq_true, if_false, if_true, beq_self_eq_true, ← of_list, Bool.not_true, Bool.or_self]
          exact fin
        · have hp := parseT_nil pT
          subst hp
          have hgf : g = false := by cases g with | false => rfl | true => exact absurd (g3.1 rfl) hg
          rw [hgf]
          unfold zeroD
          simp only [bne_self_eq_false, Bool.false_eq_true, if_false]
          exact fin
end Go.Proofs.YtddaggnomcoejaaDoor.Pure
