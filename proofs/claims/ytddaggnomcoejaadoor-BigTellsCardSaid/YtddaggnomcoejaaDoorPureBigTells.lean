/- The pure law BigTells: layer 4's functions and the reference's say the same of every text and number. No conditions. -/
import Derived.Test.YtddaggnomcoejaaDoorRefBig3
import Derived.Test.YtddaggnomcoejaaDoorPRx4
import Derived.Test.YtddaggnomcoejaaDoorPRx8
namespace Go.Proofs.YtddaggnomcoejaaDoor.Pure
set_option linter.unusedSimpArgs false
set_option linter.unusedVariables false
open Go.RowKit Go.Lib Go.Proofs.YtddaggnomcoejaaDoor.Room Go.Proofs.YtddaggnomcoejaaDoor.PR Go.Proofs.YtddaggnomcoejaaDoorW.PrintWords Go.Proofs.YtddaggnomcoejaaDoor.Aid Go.Proofs.YtddaggnomcoejaaDoor.Num Go.Proofs.YtddaggnomcoejaaDoor.BigFns Go.Proofs.YtddaggnomcoejaaDoor.BigQ Go.Proofs.YtddaggnomcoejaaDoor.RefBig
theorem known4 (k : Nat) (hk : 100 ≤ k) : targumlaw4_known.f k = some true := at_rounds targumlaw4_known.mono hk (by decide +kernel)
theorem val_dec_len {l : List UInt8} (hd : Digs l) (hne : l ≠ []) : (decDigits (val l)).length ≤ l.length := by
  have hp := List.length_pos_iff.2 hne
  have h := val_lt l hd
  rw [decDigits_length]
  obtain ⟨n, hn⟩ : ∃ n, l.length = n + 1 := ⟨l.length - 1, by omega⟩
  rw [hn] at h ⊢
  exact nDigits_le n _ h
theorem normT_size {neg : Bool} {s r : ByteArray} (h : normT neg s r) : r.size ≤ s.size + 1 := by
  rcases h with ⟨hd, hne, rfl⟩ | ⟨_, rfl⟩
  · have h1 := itoa_len (if neg then -(val s.data.toList : Int) else (val s.data.toList : Int))
    have h2 := val_dec_len hd hne
    rw [num_size, Lib.size_eq]
    have h3 : (if neg then -(val s.data.toList : Int) else (val s.data.toList : Int)).natAbs = val s.data.toList := by cases neg <;> simp
    rw [h3] at h1
    omega
  · show 0 ≤ _
    omega
theorem normT_good {neg : Bool} {s r : ByteArray} (h : normT neg s r) : IsNum r.data.toList ↔ (r.toList != ([] : List UInt8)) = true := by
  rcases h with ⟨hd, hne, rfl⟩ | ⟨_, rfl⟩
  · refine ⟨fun _ => ?_, fun _ => num_isNum _⟩
    rw [bne_iff_ne, Lib.toList_data]
    intro e
    have h1 := itoa_len (if neg then -(val s.data.toList : Int) else (val s.data.toList : Int))
    rw [num_list] at e
    rw [e] at h1
    have := dec_pos (if neg then -(val s.data.toList : Int) else (val s.data.toList : Int)).natAbs
    simp only [List.length_nil] at h1
    omega
  · constructor
    · intro q
      rcases q.cases with e | e | ⟨d, e, _⟩
      · cases e
      · obtain ⟨x, r, e', _⟩ := e.2; cases e'
      · cases e
    · intro q; exact absurd q (by rw [Lib.toList_data]; decide)
theorem BigTells : targumlaw4_BigTells.Pure := by
  intro s t neg m c base _ _ hm hc hb
  refine ⟨3000, ?_⟩
  unfold targumlaw4_BigTells.f
  rw [known4 _ (by decide)]
  simp only [Option.bind_some, if_true]
  have J1 : ∀ k, targumlaw4_BigTells.j0 (k + 1) s t neg m c base true = some true := fun k => by simp only [targumlaw4_BigTells.j0, if_true]
  by_cases hs : (s.size : Int) > 80
  · rw [if_pos hs]; exact J1 2999
  · rw [if_neg hs]
    by_cases ht : (t.size : Int) > 80
    · rw [decide_eq_true ht]; exact J1 2999
    · rw [decide_eq_false ht]
      obtain ⟨x, x1, x2, hx⟩ := norm_both neg s (by omega) 1000 (by omega)
      obtain ⟨y, y1, y2, hy⟩ := norm_both (!neg) t (by omega) 1000 (by omega)
      obtain ⟨z, z1, z2, hz⟩ := norm_both neg t (by omega) 1000 (by omega)
      have sx := normT_size hx
      have sy := normT_size hy
      have sz := normT_size hz
      obtain ⟨b1, g1, g2, _⟩ := good_both s (by omega) 1000 (by omega)
      obtain ⟨b2, g3, g4, hg⟩ := good_both x (by omega) 1000 (by omega)
      obtain ⟨r1, p1, p2⟩ := base_both s base (by omega) 1000 (by omega)
      obtain ⟨r2, p3, p4⟩ := base_both s 2 (by omega) 1000 (by omega)
      obtain ⟨r3, p5, p6⟩ := base_both s 8 (by omega) 1000 (by omega)
      obtain ⟨r4, p7, p8⟩ := base_both s 16 (by omega) 1000 (by omega)
      obtain ⟨r5, q1, q2⟩ := muladd_both s m c (by omega) 1000 (by omega)
      obtain ⟨r6, a1, a2, _⟩ := add_both s m (by omega) 1000 (by omega)
      obtain ⟨r7, c1, c2⟩ := compare_both s t (by omega) (by omega) 1000 (by omega) (by omega)
      obtain ⟨P, hP⟩ : ∃ P, Int.tmod m 1000000 = P := ⟨_, rfl⟩
      obtain ⟨Q, hQ⟩ : ∃ Q, Int.tmod c 1000000 = Q := ⟨_, rfl⟩
      obtain ⟨r8, q3, q4⟩ := muladd_both x P Q (by omega) 1000 (by omega)
      obtain ⟨r9, a3, a4, _⟩ := add_both x P (by omega) 1000 (by omega)
      obtain ⟨r10, a5, a6, _⟩ := add_both y (wrap64 (-Q)) (by omega) 1000 (by omega)
      obtain ⟨r11, c3, c4⟩ := compare_both x y (by omega) (by omega) 1000 (by omega) (by omega)
      obtain ⟨r12, c5, c6⟩ := compare_both x z (by omega) (by omega) 1000 (by omega) (by omega)
      have up : ∀ {α : Type} {g : Nat → Option α} {r : α}, (∀ k, LeO (g k) (g (k + 1))) → g 1000 = some r → ∀ k, g (1000 + k) = some r := fun hg h k => at_rounds hg (by omega) h
      have L3 : ∀ k, targumlaw4_BigTells.l0 (1000 + k + 1) s t neg x y P Q [2, 8, 16] 3 3 = some true := by
        intro k
        simp only [targumlaw4_BigTells.l0]
        rw [if_neg (by decide), up (big_MulAdd.mono x P Q) q3, up (targumref4_MulAdd.mono x P Q) q4]
        simp only [Option.bind_some, if_true]
        rw [up (big_Add.mono x P) a3, up (targumref4_Add.mono x P) a4]
        simp only [Option.bind_some, if_true]
        rw [up (big_Add.mono y (wrap64 (-Q))) a5, up (targumref4_Add.mono y (wrap64 (-Q))) a6]
        simp only [Option.bind_some, if_true]
        rw [up (big_Compare.mono x y) c3, up (targumref4_Compare.mono x y) c4]
        simp only [Option.bind_some, if_true]
        rw [up (targumref4_Norm.mono neg t) z2]
        simp only [Option.bind_some, if_true]
        rw [up (big_Compare.mono x z) c5, up (targumref4_Compare.mono x z) c6]
        simp only [Option.bind_some, if_true]
        rw [up (big_Good.mono x) g3]
        simp only [Option.bind_some]
        congr 1
        rw [beq_iff_eq, Bool.eq_iff_iff, hg]
        exact normT_good hx
      have L2 : ∀ k, targumlaw4_BigTells.l0 (1000 + k + 2) s t neg x y P Q [2, 8, 16] 3 2 = some true := by
        intro k
        simp only [targumlaw4_BigTells.l0]
        rw [if_pos (by decide), if_pos (by decide), if_pos (by decide), show rd [2, 8, 16] 2 = 16 from rfl, show 1000 + k + 1 = 1000 + (k + 1) by omega, up (big_Base.mono s 16) p7, up (targumref4_Base.mono s 16) p8]
        simp only [Option.bind_some, if_true]
        rw [show wrap64 (2 + 1) = 3 by decide +kernel]
        exact L3 k
      have L1 : ∀ k, targumlaw4_BigTells.l0 (1000 + k + 3) s t neg x y P Q [2, 8, 16] 3 1 = some true := by
        intro k
        simp only [targumlaw4_BigTells.l0]
        rw [if_pos (by decide), if_pos (by decide), if_pos (by decide), show rd [2, 8, 16] 1 = 8 from rfl, show 1000 + k + 2 = 1000 + (k + 2) by omega, up (big_Base.mono s 8) p5, up (targumref4_Base.mono s 8) p6]
        simp only [Option.bind_some, if_true]
        rw [show wrap64 (1 + 1) = 2 by decide +kernel]
        exact L2 k
      have L0 : ∀ k, targumlaw4_BigTells.l0 (1000 + k + 4) s t neg x y P Q [2, 8, 16] 3 0 = some true := by
        intro k
        simp only [targumlaw4_BigTells.l0]
        rw [if_pos (by decide), if_pos (by decide), if_pos (by decide), show rd [2, 8, 16] 0 = 2 from rfl, show 1000 + k + 3 = 1000 + (k + 3) by omega, up (big_Base.mono s 2) p3, up (targumref4_Base.mono s 2) p4]
        simp only [Option.bind_some, if_true]
        rw [show wrap64 (0 + 1) = 1 by decide +kernel]
        exact L1 k
      have J0 : ∀ K, targumlaw4_BigTells.j0 (1000 + K + 6) s t neg m c base false = some true := by
        intro K
        simp only [targumlaw4_BigTells.j0, Bool.false_eq_true, if_false]
        rw [show 1000 + K + 5 = 1000 + (K + 5) by omega, up (targumref4_Norm.mono neg s) x2, up (targumref4_Norm.mono (!neg) t) y2]
        simp only [Option.bind_some]
        rw [up (big_Good.mono s) g1, up (targumref4_Good.mono s) g2]
        simp only [Option.bind_some, bne_self_eq_false, Bool.false_eq_true, if_false]
        rw [up (big_Norm.mono neg s) x1]
        simp only [Option.bind_some, if_true]
        rw [up (big_Base.mono s base) p1, up (targumref4_Base.mono s base) p2]
        simp only [Option.bind_some, if_true]
        rw [up (big_MulAdd.mono s m c) q1, up (targumref4_MulAdd.mono s m c) q2]
        simp only [Option.bind_some, if_true]
        rw [up (big_Add.mono s m) a1, up (targumref4_Add.mono s m) a2]
        simp only [Option.bind_some, if_true]
        rw [up (big_Compare.mono s t) c1, up (targumref4_Compare.mono s t) c2]
        simp only [Option.bind_some, bne_self_eq_false]
        rw [show 1000 + (K + 5) = 1000 + K + 4 + 1 by omega]
        simp only [targumlaw4_BigTells.j1, Bool.false_eq_true, if_false, Option.bind_some, hP, hQ]
        exact L0 K
      exact J0 1994
end Go.Proofs.YtddaggnomcoejaaDoor.Pure
