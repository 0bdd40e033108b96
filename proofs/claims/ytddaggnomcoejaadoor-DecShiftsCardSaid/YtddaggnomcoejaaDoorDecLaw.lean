/- What law 5's texts share: what it knows, its digits, decimals handed to both sides. No conditions but sizes. -/
import Derived.Test.YtddaggnomcoejaaDoorDecSpec3
import Derived.Test.YtddaggnomcoejaaDoorPDx4
import Derived.Test.YtddaggnomcoejaaDoorPDx11
namespace Go.Proofs.YtddaggnomcoejaaDoor.DecSpec
set_option linter.unusedSimpArgs false
set_option linter.unusedVariables false
open Go.RowKit Go.Lib Go.Proofs.YtddaggnomcoejaaDoor.Room Go.Proofs.YtddaggnomcoejaaDoor.PD Go.Proofs.YtddaggnomcoejaaDoorW.PrintWords Go.Proofs.YtddaggnomcoejaaDoor.Aid Go.Proofs.YtddaggnomcoejaaDoor.Num Go.Proofs.YtddaggnomcoejaaDoor.BigFns Go.Proofs.YtddaggnomcoejaaDoor.BigQ Go.Proofs.YtddaggnomcoejaaDoor.RefBig
theorem digits5_l0 (s : ByteArray) (hs : s.size ≤ 1000000) : ∀ (d k i : Nat) (xs : List Int), i + d = s.size → xs.length = s.size → (∀ j < i, xs[j]? = some (48 + ((ba s.data.toList j) % 10))) → d + 1 ≤ k →
    targumlaw5_digits.l0 k s xs i = some (txt (digL s.data.toList))
  | 0, k, i, xs, hi, hl, hx, hk => by
    obtain ⟨k, rfl⟩ : ∃ m, k = m + 1 := ⟨k - 1, by omega⟩
    simp only [targumlaw5_digits.l0]
    rw [if_neg (by omega)]
    congr 1
    apply ext_list
    rw [strOfNums_data, txt_list]
    apply List.ext_getElem?
    intro j
    unfold digL
    rw [List.getElem?_map, List.getElem?_map]
    by_cases hj : j < i
    · have hjl : j < s.data.toList.length := by rw [← Lib.size_eq]; omega
      rw [hx j hj, List.getElem?_eq_getElem hjl]
      simp only [Option.map_some, Option.some.injEq]
      have : ba s.data.toList j = ((s.data.toList[j]).toNat : Int) := by unfold ba; rw [List.getD_eq_getElem?_getD, List.getElem?_eq_getElem hjl]; rfl
      rw [this]
      congr 1
    · rw [List.getElem?_eq_none (by omega), List.getElem?_eq_none (by rw [← Lib.size_eq]; omega)]
      rfl
  | d + 1, k, i, xs, hi, hl, hx, hk => by
    obtain ⟨k, rfl⟩ : ∃ m, k = m + 1 := ⟨k - 1, by omega⟩
    have hr := ba_range s.data.toList i
    simp only [targumlaw5_digits.l0]
    rw [if_pos (by omega), if_pos (by omega), if_pos (by omega), wrap_id (by omega) (by omega), bt_nat, Int.tmod_eq_emod_of_nonneg hr.1, show (48 + ba s.data.toList i % 10) % 256 = 48 + ba s.data.toList i % 10 by omega, Int.toNat_natCast]
    have := digits5_l0 s hs d k (i + 1) (xs.set i (48 + ba s.data.toList i % 10)) (by omega) (by rw [List.length_set]; exact hl) (fun j hj => by
      by_cases e : j = i
      · subst e
        rw [List.getElem?_set_self (by omega)]
      · rw [List.getElem?_set_ne (by omega)]
        exact hx j (by omega)) (by omega)
    rw [show ((i + 1 : Nat) : Int) = (i : Int) + 1 by omega] at this
    exact this
theorem digits5 (s : ByteArray) (hs : s.size ≤ 1000000) (k : Nat) (hk : s.size + 1 ≤ k) : targumlaw5_digits.f k s = some (txt (digL s.data.toList)) := by
  unfold targumlaw5_digits.f
  rw [if_pos (by omega), if_pos (by omega)]
  exact digits5_l0 s hs s.size k 0 _ (by omega) (by rw [List.length_replicate]; omega) (fun j hj => absurd hj (by omega)) hk
theorem known5 (k : Nat) (hk : 200 ≤ k) : targumlaw5_known.f k = some true := at_rounds targumlaw5_known.mono hk (by decide +kernel)
theorem dec_len_mono {u v : Nat} (h : u ≤ v) : (decDigits u).length ≤ (decDigits v).length := by
  rcases Nat.lt_or_ge (decDigits v).length (decDigits u).length with q | q
  · have := dec_len_lt q; omega
  · exact q
theorem num_len_add (z δ : Int) (h : δ.natAbs ≤ 1099511627776) : (itoa (z + δ)).length ≤ (itoa z).length + 20 := by
  have h1 := itoa_len (z + δ)
  have h2 := itoa_len z
  have h3 := dec_len_mono (show (z + δ).natAbs ≤ z.natAbs + δ.natAbs by omega)
  have h4 := dec_len_add z.natAbs δ.natAbs h
  omega
theorem trimL_len (l : List UInt8) : (trimLeftS l [48]).length ≤ l.length := by
  obtain ⟨n, c, e, hc⟩ := splitL l
  rw [e, trimL_zs n c hc, List.length_append]; omega
theorem makeN_size (neg : Bool) (l : List UInt8) (x : Int) (hl : l.length ≤ 20000) : (makeN neg l x).2.2.1.size ≤ l.length + 1 ∧ (makeN neg l x).2.2.2.1.size ≤ (itoa x).length + 20 := by
  have h1 := trimR_len l
  have h2 := trimL_len (trimRightS l [48])
  unfold makeN
  split
  · have := itoa_len x
    have := dec_pos x.natAbs
    simp only [txt_size, List.length_singleton]
    omega
  · simp only [txt_size, num_size]
    have := num_len_add x ((l.length : Int) - ((trimRightS l [48]).length : Int)) (by omega)
    omega
theorem makeT_size {neg : Bool} {w f e : ByteArray} {r : D5} (h : makeT neg w f e r) (hw : w.size ≤ 5000) (hf : f.size ≤ 5000) : r.2.2.1.size ≤ w.size + f.size + 1 ∧ r.2.2.2.1.size ≤ e.size + 40 := by
  have hw' : w.data.toList.length = w.size := (Lib.size_eq w).symm
  have hf' : f.data.toList.length = f.size := (Lib.size_eq f).symm
  rcases h with ⟨z, _, _, rfl, rfl⟩ | ⟨_, rfl⟩
  · have h1 := makeN_size neg (w.data.toList ++ f.data.toList) (z - f.size) (by rw [List.length_append]; omega)
    have h2 := num_len_add z (-(f.size : Int)) (by omega)
    rw [List.length_append, hw', hf'] at h1
    rw [num_size]
    rw [show z + -(f.size : Int) = z - (f.size : Int) by omega] at h2
    omega
  · exact ⟨Nat.zero_le _, Nat.zero_le _⟩
theorem goods_both (K : Int) (neg : Bool) (d e : ByteArray) (hd : d.size ≤ 50000) (he : e.size ≤ 50000) (k : Nat) (hk : 60000 ≤ k) : ∃ b, dec_Good.f k K neg d e = some b ∧ targumref4_Dec.f k K neg d e = some b ∧ (b = true ↔ goodD K neg d.data.toList e.data.toList) := by
  have hd' : d.data.toList.length = d.size := (Lib.size_eq d).symm
  have he' : e.data.toList.length = e.size := (Lib.size_eq e).symm
  obtain ⟨b, h1, h2⟩ := Good_any K neg d.data.toList e.data.toList (by omega) (by omega) k (by omega) (by omega)
  obtain ⟨b', h3, h4⟩ := Dec_any K neg d.data.toList e.data.toList (by omega) (by omega) k (by omega) (by omega)
  rw [← of_list, ← of_list] at h1 h3
  have : b = b' := by rw [Bool.eq_iff_iff, h2, h4]
  subst this
  exact ⟨b, h1, h3, h2⟩
theorem prints_both (K : Int) (neg : Bool) (d e : ByteArray) (hd : d.size ≤ 50000) (he : e.size ≤ 50000) (k : Nat) (hk : 60000 ≤ k) : ∃ p, dec_Print.f k K neg d e = some p ∧ targumref4_Print.f k K neg d e = some p ∧
    ((goodD K neg d.data.toList e.data.toList ∧ p = txt (printL K neg d.data.toList e.data.toList)) ∨ (¬ goodD K neg d.data.toList e.data.toList ∧ p = ⟨#[]⟩)) := by
  have hd' : d.data.toList.length = d.size := (Lib.size_eq d).symm
  have he' : e.data.toList.length = e.size := (Lib.size_eq e).symm
  have h1 := Print_any K neg d.data.toList e.data.toList (by omega) (by omega) k (by omega) (by omega)
  have h2 := rPrint_any K neg d.data.toList e.data.toList (by omega) (by omega) k (by omega) (by omega)
  rw [← of_list, ← of_list] at h1 h2
  by_cases g : goodD K neg d.data.toList e.data.toList
  · exact ⟨_, h1.1 g, h2.1 g, .inl ⟨g, rfl⟩⟩
  · exact ⟨_, h1.2 g, h2.2 g, .inr ⟨g, rfl⟩⟩
theorem printL_len (K : Int) (neg : Bool) (d e : List UInt8) : (printL K neg d e).length ≤ d.length + e.length + 5 := by
  have h1 : (signL neg).length ≤ 1 := by unfold signL; cases neg <;> simp
  have h2 : (plusL e).length ≤ 1 := by unfold plusL; split <;> simp
  unfold printL
  split
  · simp
  · split
    · simp only [List.length_append, List.length_cons, List.length_nil]; omega
    · simp only [List.length_append, List.length_cons, List.length_nil]; omega
theorem printL_ne (K : Int) (neg : Bool) (d e : List UInt8) : printL K neg d e ≠ [] := by
  unfold printL
  split
  · simp
  · split
    · simp
    · simp
theorem parseT_nil {r : D5} (h : parseT [] r) : r = zeroD := by
  rcases h with ⟨K, neg, d, e, _, hl, _⟩ | ⟨_, hr⟩
  · exact absurd hl.symm (printL_ne K neg d e)
  · exact hr
end Go.Proofs.YtddaggnomcoejaaDoor.DecSpec
