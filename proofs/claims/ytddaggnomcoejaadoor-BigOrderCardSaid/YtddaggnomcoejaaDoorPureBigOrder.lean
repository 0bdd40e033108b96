/- The pure law BigOrder: which is less is one order; noughts ahead say nothing. No conditions. -/
import Derived.Test.YtddaggnomcoejaaDoorBigQ
import Derived.Test.YtddaggnomcoejaaDoorPQx6
namespace Go.Proofs.YtddaggnomcoejaaDoor.Pure
set_option linter.unusedSimpArgs false
set_option linter.unusedVariables false
open Go.RowKit Go.Lib Go.Proofs.YtddaggnomcoejaaDoor.Room Go.Proofs.YtddaggnomcoejaaDoor.PQ Go.Proofs.YtddaggnomcoejaaDoorW.PrintWords Go.Proofs.YtddaggnomcoejaaDoor.Aid Go.Proofs.YtddaggnomcoejaaDoor.Num Go.Proofs.YtddaggnomcoejaaDoor.BigFns Go.Proofs.YtddaggnomcoejaaDoor.BigQ
def zs (n : Nat) : List UInt8 := List.replicate n 48
theorem zs_digs (n : Nat) : Digs (zs n) := fun x hx => by rw [List.eq_of_mem_replicate hx]; exact ⟨by decide, by decide⟩
theorem zs_val : ∀ n : Nat, val (zs n) = 0
  | 0 => rfl
  | n + 1 => by
    unfold zs
    rw [List.replicate_succ', val_snoc]
    have := zs_val n
    unfold zs at this
    rw [this]
    rfl
theorem NormZ (neg : Bool) (n : Nat) (hn : n ≤ 20) (s : ByteArray) (hs0 : 0 < s.size) (hs : s.size ≤ 60) {k : Nat} (hk : 100 ≤ k) : big_Norm.f k neg (txt (zs n) ++ txt (digL s.data.toList)) = some (num (if neg then -(val (digL s.data.toList) : Int) else (val (digL s.data.toList) : Int))) := by
  have hdl := digL_length s.data.toList
  rw [← Lib.size_eq] at hdl
  have e : txt (zs n) ++ txt (digL s.data.toList) = txt (zs n ++ digL s.data.toList) := by
    apply ext_list
    rw [append_list, txt_list, txt_list, txt_list]
  have hv : val (zs n ++ digL s.data.toList) = val (digL s.data.toList) := by rw [val_append, zs_val, Nat.mul_zero, Nat.add_zero]
  have hl : (zs n ++ digL s.data.toList).length = n + s.size := by rw [List.length_append, hdl]; unfold zs; rw [List.length_replicate]
  rw [e, Norm_eq neg _ ((zs_digs n).append (digL_digs _)) (fun h => by rw [h] at hl; simp at hl; omega) (by omega) k (by omega), hv]
theorem cmpZ_range (x y : Int) : -1 ≤ cmpZ x y ∧ cmpZ x y ≤ 1 := by
  unfold cmpZ
  repeat' split
  all_goals omega
theorem cmpZ_turn (x y : Int) : cmpZ y x = -(cmpZ x y) := by
  unfold cmpZ
  repeat' split
  all_goals first | rfl | omega
theorem cmpZ_opp (x y : Int) : cmpZ (-x) (-y) = -(cmpZ x y) := by
  unfold cmpZ
  repeat' split
  all_goals first | rfl | omega
theorem order_l0 (s t : ByteArray) (hs0 : 0 < s.size) (hs : s.size ≤ 40) (ht0 : 0 < t.size) (ht : t.size ≤ 40) (neg : Bool) (x : Int) (N : Nat) (hN : Int.tmod x 9 = N) (hN9 : N < 9) : ∀ (d r i : Nat), i + d = N → 400 + d ≤ r → targumlaw4_BigOrder.l0 r s t neg x (txt (zs i)) (i : Int) = some true
  | 0, r, i, hi, hr => by
    obtain ⟨r, rfl⟩ : ∃ q, r = q + 1 := ⟨r - 1, by omega⟩
    have hzl : (txt (zs i)).size = i := by rw [txt_size]; unfold zs; rw [List.length_replicate]
    have hds : (txt (digL s.data.toList)).size = s.size := by rw [txt_size, digL_length, ← Lib.size_eq]
    have hdt : (txt (digL t.data.toList)).size = t.size := by rw [txt_size, digL_length, ← Lib.size_eq]
    obtain ⟨Q, hQ⟩ : ∃ Q : Nat, Q = 10 ^ (99 + 1) := ⟨_, rfl⟩
    have hPQ : (10 : Nat) ^ 40 + 100000000000000 ≤ Q := by rw [hQ]; decide
    have hv := val_small s 40 hs
    have hw := val_small t 40 ht
    generalize (10 : Nat) ^ 40 = P at hPQ hv hw
    simp only [targumlaw4_BigOrder.l0]
    rw [hN, wrap_id (x := (N : Int)) (by omega) (by omega), if_neg (by omega), digits4 s (by omega) _ (by omega), digits4 t (by omega) _ (by omega)]
    simp only [Option.bind_some]
    rw [if_pos (by omega), NormZ neg i (by omega) s hs0 (by omega) (by omega)]
    simp only [Option.bind_some]
    rw [NormQ neg t ht0 (by omega) (by omega)]
    simp only [Option.bind_some]
    rw [NormQ (!neg) s hs0 (by omega) (by omega)]
    simp only [Option.bind_some]
    rw [if_pos (by omega), NormZ (!neg) i (by omega) t ht0 (by omega) (by omega)]
    simp only [Option.bind_some]
    rw [NormQ neg s hs0 (by omega) (by omega)]
    simp only [Option.bind_some]
    obtain ⟨V, hV⟩ : ∃ V : Nat, val (digL s.data.toList) = V := ⟨_, rfl⟩
    obtain ⟨W, hW⟩ : ∃ W : Nat, val (digL t.data.toList) = W := ⟨_, rfl⟩
    rw [hV] at hv ⊢
    rw [hW] at hw ⊢
    obtain ⟨A, hA⟩ : ∃ A : Int, (if neg = true then -(V : Int) else (V : Int)) = A := ⟨_, rfl⟩
    obtain ⟨B, hB⟩ : ∃ B : Int, (if neg = true then -(W : Int) else (W : Int)) = B := ⟨_, rfl⟩
    have hC : (if (!neg) = true then -(V : Int) else (V : Int)) = -A := by rw [← hA]; cases neg <;> simp
    have hD : (if (!neg) = true then -(W : Int) else (W : Int)) = -B := by rw [← hB]; cases neg <;> simp
    have hAs : A.natAbs = V := by rw [← hA]; cases neg <;> simp
    have hBs : B.natAbs = W := by rw [← hB]; cases neg <;> simp
    have hneg : A ≠ 0 → (decide (A < -A) = neg) := by
      intro h
      rw [← hA] at h ⊢
      cases neg
      · simp at h ⊢; try omega
      · simp at h ⊢; try omega
    rw [hA, hB, hC, hD]
    rw [CmpQ hQ (by omega) (by omega) (by omega)]
    simp only [Option.bind_some]
    rw [if_pos True.intro, CmpQ hQ (x := B) (y := A) (by omega) (by omega) (by omega)]
    simp only [Option.bind_some]
    have hc := cmpZ_range A B
    rw [wrap_id (x := -(cmpZ A B)) (by omega) (by omega), if_pos (cmpZ_turn A B), CmpQ hQ (x := -A) (y := -B) (by omega) (by omega) (by omega)]
    simp only [Option.bind_some]
    rw [if_pos (cmpZ_opp A B)]
    have hE : ((cmpZ A B == 0) == ((num A).toList == (num B).toList)) = true := by
      rw [beq_iff_eq]
      by_cases h : A = B
      · subst h
        rw [beq_self_eq_true]
        unfold cmpZ
        rw [if_neg (by omega), if_pos rfl]
        rfl
      · have h1 : (num A).toList ≠ (num B).toList := fun e => h (num_inj (by
          rw [Lib.toList_data, Lib.toList_data] at e
          exact ext_list e))
        rw [beq_eq_false_iff_ne.2 h1, beq_eq_false_iff_ne]
        unfold cmpZ
        rw [if_neg h]
        split <;> decide
    rw [if_pos hE, CmpQ hQ (x := A) (y := A) (by omega) (by omega) (by omega)]
    simp only [Option.bind_some]
    rw [if_pos (by unfold cmpZ; rw [if_neg (by omega), if_pos rfl])]
    by_cases h0 : A = 0
    · have e0 : (num A).toList = [48] := by rw [h0, ← num_zero, Lib.toList_data]
      rw [if_pos e0]
    · have ne0 : ∀ z : Int, z ≠ 0 → ¬ (num z).toList = [48] := fun z hz e => hz (num_inj (by
        rw [← num_zero]
        apply ext_list
        rw [Lib.toList_data] at e
        exact e))
      rw [if_neg (ne0 A h0), if_neg (ne0 (-A) (by omega)), CmpQ hQ (x := A) (y := -A) (by omega) (by omega) (by omega)]
      simp only [Option.bind_some]
      congr 1
      rw [beq_iff_eq, ← hneg h0]
      unfold cmpZ
      by_cases h1 : A < -A
      · rw [if_pos h1, decide_eq_true h1]; rfl
      · rw [if_neg h1, decide_eq_false h1]
        split <;> rfl
  | d + 1, r, i, hi, hr => by
    obtain ⟨r, rfl⟩ : ∃ q, r = q + 1 := ⟨r - 1, by omega⟩
    have hzl : (txt (zs i)).size = i := by rw [txt_size]; unfold zs; rw [List.length_replicate]
    simp only [targumlaw4_BigOrder.l0]
    rw [hN, wrap_id (x := (N : Int)) (by omega) (by omega), if_pos (by omega), if_pos (by omega), wrap_id (x := (i : Int) + 1) (by omega) (by omega)]
    have := order_l0 s t hs0 hs ht0 ht neg x N hN hN9 d r (i + 1) (by omega) (by omega)
    have e : txt (zs i) ++ (⟨#[48]⟩ : ByteArray) = txt (zs (i + 1)) := by
      apply ext_list
      rw [append_list, txt_list, txt_list]
      unfold zs
      rw [List.replicate_succ']
    rw [e, show (i : Int) + 1 = ((i + 1 : Nat) : Int) by omega]
    exact this
theorem BigOrder : targumlaw4_BigOrder.Pure := by
  intro s t neg x _ _ hx
  have hx' : (decide (IntKind.u8.min ≤ x) && decide (x ≤ IntKind.u8.max)) = true := hx
  rw [Bool.and_eq_true, decide_eq_true_eq, decide_eq_true_eq] at hx'
  have x0 : (0 : Int) ≤ x := hx'.1
  refine ⟨2000, ?_⟩
  unfold targumlaw4_BigOrder.f
  rw [known4 _ (by decide)]
  simp only [Option.bind_some, if_true]
  have J1 : targumlaw4_BigOrder.j0 2000 s t neg x true = some true := by
    show targumlaw4_BigOrder.j0 (1999 + 1) s t neg x true = some true
    simp only [targumlaw4_BigOrder.j0, if_true]
  by_cases hs1 : (s.size : Int) < 1
  · rw [if_pos hs1]; exact J1
  · rw [if_neg hs1]
    by_cases ht1 : (t.size : Int) < 1
    · rw [if_pos ht1]; exact J1
    · rw [if_neg ht1]
      by_cases hs2 : (s.size : Int) > 40
      · rw [if_pos hs2]; exact J1
      · rw [if_neg hs2]
        by_cases ht2 : (t.size : Int) > 40
        · rw [decide_eq_true ht2]; exact J1
        · rw [decide_eq_false ht2]
          show targumlaw4_BigOrder.j0 (1999 + 1) s t neg x false = some true
          simp only [targumlaw4_BigOrder.j0]
          rw [if_neg (by decide)]
          have t0 : 0 ≤ Int.tmod x 9 := Int.tmod_nonneg _ x0
          have t1 : Int.tmod x 9 < 9 := Int.tmod_lt_of_pos _ (by decide)
          obtain ⟨N, hN⟩ : ∃ N : Nat, Int.tmod x 9 = N := ⟨(Int.tmod x 9).toNat, by omega⟩
          exact order_l0 s t (by omega) (by omega) (by omega) (by omega) neg x N hN (by omega) N 1999 0 (by omega) (by omega)
end Go.Proofs.YtddaggnomcoejaaDoor.Pure
