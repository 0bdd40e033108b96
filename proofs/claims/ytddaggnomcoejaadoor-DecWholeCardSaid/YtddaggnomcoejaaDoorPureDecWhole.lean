/- The pure law DecWhole: a whole number is its digits, and as many noughts as its power says; it is that number alone. No conditions. -/
import Derived.Test.YtddaggnomcoejaaDoorDecLaw2
import Derived.Test.YtddaggnomcoejaaDoorPDx14
namespace Go.Proofs.YtddaggnomcoejaaDoor.Pure
set_option linter.unusedSimpArgs false
set_option linter.unusedVariables false
open Go.RowKit Go.Lib Go.Proofs.YtddaggnomcoejaaDoor.Room Go.Proofs.YtddaggnomcoejaaDoor.PD Go.Proofs.YtddaggnomcoejaaDoorW.PrintWords Go.Proofs.YtddaggnomcoejaaDoor.Aid Go.Proofs.YtddaggnomcoejaaDoor.Num Go.Proofs.YtddaggnomcoejaaDoor.BigFns Go.Proofs.YtddaggnomcoejaaDoor.BigQ Go.Proofs.YtddaggnomcoejaaDoor.RefBig Go.Proofs.YtddaggnomcoejaaDoor.DecSpec
/-- what a row of digits is, as a decimal and as a whole number -/
theorem whole_of (neg : Bool) (A : List UInt8) (hd : Digs A) (hne : A ≠ []) : ∃ d b T, makeN neg A 0 = (0, neg, txt d, num (b : Nat), true) ∧ num (val A : Nat) = txt T ∧ b ≤ A.length ∧ d.length ≤ A.length ∧ d ≠ [] ∧ ((d = [48] ∧ b = 0 ∧ T = [48]) ∨ (HeadNo d ∧ LastNo d ∧ d ≠ [48] ∧ T = d ++ zs b)) := by
  have hp := List.length_pos_iff.2 hne
  rcases split3 A with ⟨n, rfl⟩ | ⟨a, c, b, rfl, h1, h2, h3⟩
  · refine ⟨[48], 0, [48], ?_, ?_, by omega, hp, by simp, .inl ⟨rfl, rfl, rfl⟩⟩
    · rw [makeN_noughts, show ((0 : Nat) : Int) = 0 from rfl, ← num_zero]; rfl
    · have : val (zs n) = 0 := by
        clear hd hne hp
        induction n with
        | zero => rfl
        | succ n ih => rw [zs_succ, val_snoc, ih]; rfl
      rw [this, num_nat, dec_zero]
  · have hlen : (zs a ++ c ++ zs b).length = a + c.length + b := by rw [List.length_append, List.length_append, zs_length, zs_length]
    have hc : c ≠ [48] := by
      rintro rfl
      rcases h1 with e | ⟨y, r, e, hy⟩
      · cases e
      · exact hy (List.cons.inj e).1.symm
    refine ⟨c, b, c ++ zs b, ?_, ?_, by omega, by omega, h3, .inr ⟨h1, h2, hc, rfl⟩⟩
    · rw [makeN_core neg a b h1 h2 h3, Int.zero_add]
    · have hv : val (zs a ++ c ++ zs b) = val (c ++ zs b) := by
        rw [List.append_assoc]
        clear hd hne hp hlen
        induction a with
        | zero => rfl
        | succ a ih => rw [show zs (a + 1) ++ (c ++ zs b) = 48 :: (zs a ++ (c ++ zs b)) from rfl, val_zero_cons, ih]
      have hcan : Canon (c ++ zs b) := by
        refine ⟨fun y hy => hd y (by rw [List.append_assoc]; exact List.mem_append_right _ hy), ?_⟩
        rcases h1 with e | ⟨y, r, e, hy⟩
        · exact absurd e h3
        · exact ⟨y, r ++ zs b, by rw [e]; rfl, hy⟩
      rw [hv, num_nat, ← hcan.dec]
theorem whole_j3 (s t : ByteArray) (hs : s.size ≤ 40) (ht : t.size ≤ 40) (hs0 : 1 ≤ s.size) (ht0 : 1 ≤ t.size) (neg : Bool) (d d' : List UInt8) (b b' : Nat) (T T' : List UInt8)
    (hT : num (val (digL s.data.toList) : Nat) = txt T) (hT' : num (val (digL t.data.toList) : Nat) = txt T')
    (hd : (d = [48] ∧ b = 0 ∧ T = [48]) ∨ (HeadNo d ∧ LastNo d ∧ d ≠ [48] ∧ T = d ++ zs b)) (hd' : (d' = [48] ∧ b' = 0 ∧ T' = [48]) ∨ (HeadNo d' ∧ LastNo d' ∧ d' ≠ [48] ∧ T' = d' ++ zs b')) (hdn : d ≠ []) (hdn' : d' ≠ []) (k : Nat) (hk : 1000 ≤ k) :
    targumlaw5_DecWhole.j3 (k + 1) s t (txt T) 0 neg (txt d) (num (b : Nat)) 0 neg (txt d') (num (b' : Nat)) = some true := by
  have hA : (digL s.data.toList).length = s.size := by rw [digL_length, ← Lib.size_eq]
  have hB : (digL t.data.toList).length = t.size := by rw [digL_length, ← Lib.size_eq]
  have nA : digL s.data.toList ≠ [] := fun e => by rw [e] at hA; simp at hA; omega
  have nB : digL t.data.toList ≠ [] := fun e => by rw [e] at hB; simp at hB; omega
  have h1 := rNorm_eq false _ (digL_digs s.data.toList) nA (by omega) k (by omega)
  have h2 := rNorm_eq false _ (digL_digs t.data.toList) nB (by omega) k (by omega)
  rw [if_neg (by decide), hT] at h1
  rw [if_neg (by decide), hT'] at h2
  simp only [targumlaw5_DecWhole.j3]
  rw [digits5 s (by omega) _ (by omega), digits5 t (by omega) _ (by omega)]
  simp only [Option.bind_some, h1, h2, if_true]
  congr 1
  rw [beq_iff_eq, Bool.eq_iff_iff]
  simp only [Bool.and_eq_true, beq_iff_eq, txt_toList, beq_self_eq_true, true_and]
  have hnum : ∀ {x y : Nat}, (num (x : Int)).toList = (num (y : Int)).toList → x = y := fun {x y} e => by
    have := num_inj (ext_list (s := num (x : Int)) (t := num (y : Int)) (by rw [Lib.toList_data, Lib.toList_data] at e; exact e))
    omega
  have head48 : ∀ {l : List UInt8} {n : Nat}, HeadNo l → l ≠ [] → l ++ zs n ≠ [48] := by
    intro l n hh hl e
    rcases hh with e' | ⟨y, r, e', hy⟩
    · exact hl e'
    · rw [e'] at e
      exact hy (List.cons.inj e).1
  constructor
  · rintro ⟨e1, e2⟩
    have e3 := hnum e2
    subst e1 e3
    rcases hd with ⟨a1, a2, a3⟩ | ⟨a1, a2, a3, a4⟩
    · rcases hd' with ⟨b1, b2, b3⟩ | ⟨b1, b2, b3, b4⟩
      · rw [a3, b3]
      · exact absurd a1 b3
    · rcases hd' with ⟨b1, b2, b3⟩ | ⟨b1, b2, b3, b4⟩
      · exact absurd b1 a3
      · rw [a4, b4]
  · intro e
    rcases hd with ⟨a1, a2, a3⟩ | ⟨a1, a2, a3, a4⟩
    · rcases hd' with ⟨b1, b2, b3⟩ | ⟨b1, b2, b3, b4⟩
      · rw [a1, a2, b1, b2]; exact ⟨rfl, rfl⟩
      · rw [a3, b4] at e; exact absurd e.symm (head48 b1 hdn')
    · rcases hd' with ⟨b1, b2, b3⟩ | ⟨b1, b2, b3, b4⟩
      · rw [b3, a4] at e; exact absurd e (head48 a1 hdn)
      · rw [a4, b4] at e
        have q1 := trimR_zs b d a2
        have q2 := trimR_zs b' d' b2
        rw [e, q2] at q1
        subst q1
        have q3 := congrArg List.length e
        rw [List.length_append, List.length_append, zs_length, zs_length] at q3
        have : b = b' := by omega
        subst this
        exact ⟨rfl, rfl⟩
theorem whole_l0 (s t : ByteArray) (hs : s.size ≤ 40) (ht : t.size ≤ 40) (hs0 : 1 ≤ s.size) (ht0 : 1 ≤ t.size) (neg : Bool) (d d' : List UInt8) (b b' : Nat) (T T' : List UInt8)
    (hT : num (val (digL s.data.toList) : Nat) = txt T) (hT' : num (val (digL t.data.toList) : Nat) = txt T') (hdl : d.length ≤ 40) (hbl : b ≤ 40)
    (hd : (HeadNo d ∧ LastNo d ∧ d ≠ [48] ∧ T = d ++ zs b)) (hd' : (d' = [48] ∧ b' = 0 ∧ T' = [48]) ∨ (HeadNo d' ∧ LastNo d' ∧ d' ≠ [48] ∧ T' = d' ++ zs b')) (hdn : d ≠ []) (hdn' : d' ≠ []) : ∀ (n i k : Nat), i + n = b → 2000 + n ≤ k →
    targumlaw5_DecWhole.l0 k s t (txt (d ++ zs i)) (num (i : Nat)) 0 neg (txt d) (num (b : Nat)) 0 neg (txt d') (num (b' : Nat)) = some true
  | 0, i, k, hi, hk => by
    obtain ⟨k, rfl⟩ : ∃ j, k = j + 2 := ⟨k - 2, by omega⟩
    have hlen : ∀ x : Nat, x ≤ 40 → (decDigits (x : Int).natAbs).length ≤ 3 := fun x hx => by rw [Int.natAbs_natCast, decDigits_length]; exact nDigits_le 2 _ (by omega)
    have l1 := hlen i (by omega)
    have l2 := hlen b (by omega)
    have hib : i = b := by omega
    simp only [targumlaw5_DecWhole.l0]
    rw [txt_toList, if_neg hd.2.2.1, rCompare_eq _ _ (by omega) (by omega) (k + 1) (by omega) (by omega)]
    simp only [Option.bind_some]
    rw [if_neg (by unfold cmpZ; rw [if_neg (by omega)]; split <;> decide), hib, ← hd.2.2.2]
    exact whole_j3 s t hs ht hs0 ht0 neg d d' b b' T T' hT hT' (.inr hd) hd' hdn hdn' k (by omega)
  | n + 1, i, k, hi, hk => by
    obtain ⟨k, rfl⟩ : ∃ j, k = j + 1 := ⟨k - 1, by omega⟩
    have hlen : ∀ x : Nat, x ≤ 40 → (decDigits (x : Int).natAbs).length ≤ 3 := fun x hx => by rw [Int.natAbs_natCast, decDigits_length]; exact nDigits_le 2 _ (by omega)
    have l1 := hlen i (by omega)
    have l2 := hlen b (by omega)
    simp only [targumlaw5_DecWhole.l0]
    rw [txt_toList, if_neg hd.2.2.1, rCompare_eq _ _ (by omega) (by omega) k (by omega) (by omega)]
    simp only [Option.bind_some]
    rw [if_pos (by unfold cmpZ; rw [if_pos (by omega)]; decide), txt_size, if_pos (by rw [List.length_append, zs_length]; omega), rAdd_eq _ 1 (by omega) (by omega) (by omega) k (by omega)]
    simp only [Option.bind_some]
    have := whole_l0 s t hs ht hs0 ht0 neg d d' b b' T T' hT hT' hdl hbl hd hd' hdn hdn' n (i + 1) k (by omega) (by omega)
    rw [show (⟨#[48]⟩ : ByteArray) = txt [48] from rfl, app_txt, List.append_assoc, ← zs_succ, show (i : Int) + 1 = ((i + 1 : Nat) : Int) by omega]
    exact this
theorem DecWhole : targumlaw5_DecWhole.Pure := by
  intro s t neg _ _
  refine ⟨20002, ?_⟩
  unfold targumlaw5_DecWhole.f
  rw [known5 _ (by decide)]
  simp only [Option.bind_some, if_true]
  have J1 : targumlaw5_DecWhole.j0 (20001 + 1) s t neg true = some true := by simp only [targumlaw5_DecWhole.j0, if_true]
  by_cases c1 : (s.size : Int) < 1
  · rw [if_pos c1]; exact J1
  · rw [if_neg c1]
    by_cases c2 : (t.size : Int) < 1
    · rw [if_pos c2]; exact J1
    · rw [if_neg c2]
      by_cases c3 : (s.size : Int) > 40
      · rw [if_pos c3]; exact J1
      · rw [if_neg c3]
        by_cases c4 : (t.size : Int) > 40
        · rw [decide_eq_true c4]; exact J1
        · rw [decide_eq_false c4]
          obtain ⟨k, hk⟩ : ∃ k, k = 20000 := ⟨_, rfl⟩
          show targumlaw5_DecWhole.j0 (20000 + 1 + 1) s t neg false = some true
          rw [← hk]
          have hA : (digL s.data.toList).length = s.size := by rw [digL_length, ← Lib.size_eq]
          have hB : (digL t.data.toList).length = t.size := by rw [digL_length, ← Lib.size_eq]
          have nA : digL s.data.toList ≠ [] := fun e => by rw [e] at hA; simp at hA; omega
          have nB : digL t.data.toList ≠ [] := fun e => by rw [e] at hB; simp at hB; omega
          obtain ⟨d, b, T, m1, n1, q1, q2, q3, q4⟩ := whole_of neg _ (digL_digs s.data.toList) nA
          obtain ⟨d', b', T', m2, n2, p1, p2, p3, p4⟩ := whole_of neg _ (digL_digs t.data.toList) nB
          have mk : ∀ l : List UInt8, Digs l → l ≠ [] → l.length ≤ 40 → dec_Make.f (k + 1) neg (txt l) ⟨#[]⟩ ⟨#[48]⟩ = some (makeN neg l 0) := by
            intro l h1 h2 h3
            have := Make_yes neg l [] 0 (by omega) (by simp) (by rw [itoa_zero]; simp) (by rw [List.append_nil]; exact h1) (by rw [List.append_nil]; exact h2) (k + 1) (by omega)
            rw [List.append_nil] at this
            rw [num_zero]
            exact this
          simp only [targumlaw5_DecWhole.j0, Bool.false_eq_true, if_false]
          rw [digits5 s (by omega) _ (by omega), digits5 t (by omega) _ (by omega)]
          simp only [Option.bind_some]
          rw [mk _ (digL_digs _) nA (by omega), mk _ (digL_digs _) nB (by omega), m1, m2]
          simp only [Option.bind_some, if_true, Bool.not_true, targumlaw5_DecWhole.j1, Bool.false_eq_true, if_false]
          rcases q4 with ⟨a1, a2, a3⟩ | hh
          · obtain ⟨k', hk'⟩ : ∃ j, k = j + 2 := ⟨k - 2, by omega⟩
            subst a1 a2 a3
            rw [hk']
            simp only [targumlaw5_DecWhole.l0]
            rw [txt_toList, if_pos rfl]
            exact whole_j3 s t (by omega) (by omega) (by omega) (by omega) neg [48] d' 0 b' [48] T' n1 n2 (.inl ⟨rfl, rfl, rfl⟩) p4 q3 p3 k' (by omega)
          · have := whole_l0 s t (by omega) (by omega) (by omega) (by omega) neg d d' b b' T T' n1 n2 (by omega) (by omega) hh p4 q3 p3 b 0 k (by omega) (by omega)
            rw [show zs 0 = [] from rfl, List.append_nil, show ((0 : Nat) : Int) = 0 from rfl, ← num_zero] at this
            exact this
end Go.Proofs.YtddaggnomcoejaaDoor.Pure
