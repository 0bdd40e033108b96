/- The pure law DecTells: layer 5 and the reference say the same of every decimal and text. No conditions. -/
import Derived.Test.YtddaggnomcoejaaDoorDecLaw
import Derived.Test.YtddaggnomcoejaaDoorPDx10
namespace Go.Proofs.YtddaggnomcoejaaDoor.Pure
set_option linter.unusedSimpArgs false
set_option linter.unusedVariables false
open Go.RowKit Go.Lib Go.Proofs.YtddaggnomcoejaaDoor.Room Go.Proofs.YtddaggnomcoejaaDoor.PD Go.Proofs.YtddaggnomcoejaaDoorW.PrintWords Go.Proofs.YtddaggnomcoejaaDoor.Aid Go.Proofs.YtddaggnomcoejaaDoor.Num Go.Proofs.YtddaggnomcoejaaDoor.BigFns Go.Proofs.YtddaggnomcoejaaDoor.BigQ Go.Proofs.YtddaggnomcoejaaDoor.RefBig Go.Proofs.YtddaggnomcoejaaDoor.DecSpec
theorem DecTells : targumlaw5_DecTells.Pure := by
  intro K neg0 dg ex neg w f e s hK hd he hw hf hex hs
  refine ⟨100001, ?_⟩
  unfold targumlaw5_DecTells.f
  rw [known5 _ (by decide)]
  simp only [Option.bind_some, if_true]
  have J1 : targumlaw5_DecTells.j0 (100000 + 1) neg w f e s true K neg0 dg ex = some true := by simp only [targumlaw5_DecTells.j0, if_true]
  by_cases c1 : (dg.size : Int) > 60
  · rw [if_pos c1]; exact J1
  · rw [if_neg c1]
    by_cases c2 : (ex.size : Int) > 60
    · rw [if_pos c2]; exact J1
    · rw [if_neg c2]
      by_cases c3 : (w.size : Int) > 60
      · rw [if_pos c3]; exact J1
      · rw [if_neg c3]
        by_cases c4 : (f.size : Int) > 60
        · rw [if_pos c4]; exact J1
        · rw [if_neg c4]
          by_cases c5 : (e.size : Int) > 60
          · rw [if_pos c5]; exact J1
          · rw [if_neg c5]
            by_cases c6 : (s.size : Int) > 150
            · rw [decide_eq_true c6]; exact J1
            · rw [decide_eq_false c6]
              obtain ⟨k, hk⟩ : ∃ k, k = 100000 := ⟨_, rfl⟩
              show targumlaw5_DecTells.j0 (100000 + 1) neg w f e s false K neg0 dg ex = some true
              rw [← hk]
              obtain ⟨a, a1, a2, aT⟩ := make_both neg w f e (by omega) (by omega) (by omega) k (by omega)
              obtain ⟨p, p1, p2, _⟩ := parse_both s (by omega) k (by omega)
              obtain ⟨g, g1, g2, _⟩ := goods_both K neg0 dg ex (by omega) (by omega) k (by omega)
              obtain ⟨q, q1, q2, _⟩ := prints_both K neg0 dg ex (by omega) (by omega) k (by omega)
              have hsz := makeT_size aT (by omega) (by omega)
              obtain ⟨t, t1, t2, _⟩ := prints_both a.1 a.2.1 a.2.2.1 a.2.2.2.1 (by omega) (by omega) k (by omega)
              simp only [targumlaw5_DecTells.j0, Bool.false_eq_true, if_false]
              rw [a1, a2]
              simp only [Option.bind_some]
              rw [p1, p2]
              simp only [Option.bind_some]
              rw [g1, g2]
              simp only [Option.bind_some, beq_self_eq_true, if_true]
              rw [q1, q2]
              simp only [Option.bind_some, beq_self_eq_true, if_true, Bool.and_self]
              rw [t1, t2]
              simp only [Option.bind_some, beq_self_eq_true, if_true, Bool.and_self]
end Go.Proofs.YtddaggnomcoejaaDoor.Pure
