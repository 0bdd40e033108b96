/- The pure law Float11Apart: no decimal is a whole number, no whole number a decimal; what is put on makes it neither. No conditions. -/
import Derived.Test.YtkijneohhilboaaDoorFloat11Law
import Derived.Test.YtkijneohhilboaaDoorInt11Cases
import Derived.Test.YtkijneohhilboaaDoorPVx8
namespace Go.Proofs.YtkijneohhilboaaDoor.Pure
set_option linter.unusedSimpArgs false
set_option linter.unusedVariables false
open Go.RowKit Go.Lib Go.Proofs.YtkijneohhilboaaDoor.Room Go.Proofs.YtkijneohhilboaaDoor.PV Go.Proofs.YtkijneohhilboaaDoorW.PrintWords Go.Proofs.YtkijneohhilboaaDoor.Aid Go.Proofs.YtkijneohhilboaaDoor.Num Go.Proofs.YtkijneohhilboaaDoor.BigFns Go.Proofs.YtkijneohhilboaaDoor.BigQ Go.Proofs.YtkijneohhilboaaDoor.RefBig Go.Proofs.YtkijneohhilboaaDoor.DecSpec Go.Proofs.YtkijneohhilboaaDoor.NumSpec Go.Proofs.YtkijneohhilboaaDoor.IntSpec Go.Proofs.YtkijneohhilboaaDoor.FloatSpec
theorem okG_no46 {B : Nat} (hB : B ≤ 16) {l : List UInt8} (h : okG B l = true) : 46 ∉ l := fun q => by
  have := List.all_eq_true.1 h 46 q
  rw [show ((46 : UInt8) == 95) = false from rfl, Bool.false_or, decide_eq_true_iff] at this
  have h46 : digV 46 = 16 := by decide
  omega
theorem core_no46 {t : List UInt8} {n : Nat} {f : Int} (h : core11 t = some (n, f)) : 46 ∉ t := by
  rcases core_cases h with ⟨d, rfl, e, he, _⟩ | ⟨d, rfl, e, he, _⟩ | ⟨rfl, _⟩ | ⟨d, rfl, n1, n2, e, he, _⟩ | ⟨x, r, rfl, hx, ⟨e, he, _⟩ | ⟨he, hn, _⟩⟩
  · have := okG_no46 (by decide) (bareL_ok he).2.1
    simp [this]
  · have := okG_no46 (by decide) (bareL_ok he).2.1
    simp [this]
  · decide
  · have := okG_no46 (by decide) (bareL_ok he).2.1
    simp [this]
  · exact okG_no46 (by decide) (bareL_ok he).2.1
  · have hx' : 48 ≤ x.toNat ∧ x.toNat ≤ 57 := ⟨by omega, hx.2⟩
    have hx46 : x ≠ 46 := fun e => by subst e; exact absurd hx.1 (by decide)
    rcases span58 r with ⟨q, _⟩ | ⟨p, q, e, hp, _, _⟩
    · rw [six_none hx' q] at hn; cases hn
    · rw [six_of hx' e hp] at hn
      split at hn
      · rename_i hok
        have h1 := okG_no46 (by decide) hok
        have hall := sixW_some (cols q) (val (x :: sift p))
        rw [hn] at hall
        have h2 : 46 ∉ q := fun z => by
          rcases cols_mem q 46 z with c | ⟨part, hpm, hpc⟩
          · exact absurd c (by decide)
          · exact absurd ((okPart_digs (List.all_eq_true.1 hall.symm part hpm)).1 46 hpc).1 (by decide)
        rw [e]
        intro z
        rcases List.mem_cons.1 z with z | z
        · exact hx46 z.symm
        · rcases List.mem_append.1 z with z | z
          · exact h1 z
          · rcases List.mem_cons.1 z with z | z
            · exact absurd z (by decide)
            · exact h2 z
      · cases hn
theorem int_no46 {l : List UInt8} (h : 46 ∈ (sg l).2) : (int11 l).2 = 0 := by
  rw [int11_form]
  unfold formT
  cases hc : core11 (sg l).2 with
  | none => rfl
  | some p => exact absurd h (core_no46 (n := p.1) (f := p.2) hc)
theorem cut46_mem {t w r : List UInt8} (h : cut46 t = some (w, r)) : 46 ∈ t := by
  rw [(cut46_some h).1]; simp
/-- a decimal has a point, and one of five forms -/
theorem float_some {l : List UInt8} (h : (float11 l).2.2.2.2 ≠ 0) : (∃ w r, cut46 (sg l).2 = some (w, r)) ∧ 1 ≤ (float11 l).2.2.2.2 ∧ (float11 l).2.2.2.2 ≤ 5 := by
  unfold float11 at h ⊢
  by_cases hi : infW (sg l).2 = true
  · rw [if_pos hi] at h ⊢
    refine ⟨?_, show (1 : Int) ≤ 4 by decide, show (4 : Int) ≤ 5 by decide⟩
    unfold infW at hi
    simp only [Bool.or_eq_true, beq_iff_eq] at hi
    rcases hi with (e | e) | e <;> exact ⟨_, _, by rw [e]; rfl⟩
  · rw [if_neg hi] at h ⊢
    by_cases hn : nanW (sg l).2 = true ∧ (sg l).1 = []
    · rw [if_pos hn] at h ⊢
      refine ⟨?_, show (1 : Int) ≤ 5 by decide, show (5 : Int) ≤ 5 by decide⟩
      have hn := hn.1
      unfold nanW at hn
      simp only [Bool.or_eq_true, beq_iff_eq] at hn
      rcases hn with (e | e) | e <;> exact ⟨_, _, by rw [e]; rfl⟩
    · rw [if_neg hn] at h ⊢
      cases hc : cut46 (sg l).2 with
      | none => rw [hc] at h; exact absurd rfl h
      | some p =>
        obtain ⟨w, rest⟩ := p
        rw [hc] at h
        dsimp only at h ⊢
        refine ⟨⟨w, rest, rfl⟩, ?_⟩
        unfold dec11 at h ⊢
        cases he : expo11 (rest.dropWhile isG) with
        | none => rw [he] at h; exact absurd rfl h
        | some z =>
          rw [he] at h
          dsimp only at h ⊢
          by_cases hw : w = []
          · rw [if_pos hw] at h ⊢
            by_cases hs : sift (rest.takeWhile isG) = []
            · rw [if_pos hs] at h; exact absurd rfl h
            · rw [if_neg hs]; exact ⟨by show (1 : Int) ≤ 2; decide, by show (2 : Int) ≤ 5; decide⟩
          · rw [if_neg hw] at h ⊢
            cases hwh : whole11 w with
            | none => rw [hwh] at h; exact absurd rfl h
            | some df =>
              obtain ⟨d, form⟩ := df
              rw [hwh] at h
              dsimp only at h ⊢
              by_cases h3 : form = 3 ∧ rest.dropWhile isG ≠ []
              · rw [if_pos h3] at h; exact absurd rfl h
              · rw [if_neg h3]
                have hf : form = 1 ∨ form = 3 := by
                  unfold whole11 at hwh
                  split at hwh
                  · split at hwh
                    · exact .inl (Prod.mk.inj (Option.some.inj hwh)).2.symm
                    · obtain ⟨m, _, e⟩ := Option.map_eq_some_iff.1 hwh
                      exact .inr (Prod.mk.inj e).2.symm
                  · cases hwh
                show 1 ≤ form ∧ form ≤ 5
                omega
theorem drop_back (c : UInt8) (hc : isG c = false) : ∀ l : List UInt8, ∃ u, (l ++ [c]).dropWhile isG = u ++ [c]
  | [] => ⟨[], by rw [List.nil_append, List.dropWhile_cons, hc]; rfl⟩
  | x :: l => by
    obtain ⟨u, hu⟩ := drop_back c hc l
    rw [List.cons_append, List.dropWhile_cons]
    cases hx : isG x with
    | true => exact ⟨u, by rw [if_pos rfl, hu]⟩
    | false => exact ⟨x :: l, by rw [if_neg Bool.false_ne_true]; rfl⟩
theorem expo_back (u : List UInt8) (c : UInt8) (hc : ¬ (48 ≤ c.toNat ∧ c.toNat ≤ 57)) (h43 : ¬ (c = 43 ∨ c = 45)) : expo11 (u ++ [c]) = none := by
  have key : ∀ (x : UInt8) (r : List UInt8), ((sg r).1 ≠ [] → c ∈ (sg r).2) → expo11 (x :: r) = none := fun x r h => by
    show (if (x = 101 ∨ x = 69) ∧ (sg r).1 ≠ [] ∧ okD (sg r).2 = true then some (sv r) else none) = none
    rw [if_neg]
    rintro ⟨_, q1, q2⟩
    exact hc (((okD_iff _).1 q2).1 c (h q1))
  cases u with
  | nil => exact key c [] (fun q => absurd rfl q)
  | cons x r =>
    refine key x (r ++ [c]) (fun q => ?_)
    cases r with
    | nil =>
      rw [List.nil_append] at q ⊢
      have : sg [c] = ([], [c]) := by unfold sg; dsimp only; rw [if_neg h43]
      rw [this] at q
      exact absurd rfl q
    | cons y r =>
      rw [List.cons_append]
      by_cases hy : y = 43 ∨ y = 45
      · rw [sg_sign hy]; simp
      · have : sg (y :: (r ++ [c])) = ([], y :: (r ++ [c])) := by unfold sg; dsimp only; rw [if_neg hy]
        rw [this]; simp
theorem sg_put (l x : List UInt8) (h : (sg l).2 ≠ []) : sg (l ++ x) = ((sg l).1, (sg l).2 ++ x) := by
  cases l with
  | nil => exact absurd rfl h
  | cons a r =>
    rw [List.cons_append]
    by_cases ha : a = 43 ∨ a = 45
    · rw [sg_sign ha, sg_sign ha]
    · have e : ∀ r : List UInt8, sg (a :: r) = ([], a :: r) := fun r => by unfold sg; dsimp only; rw [if_neg ha]
      rw [e, e]; rfl
/-- strange signs put behind -/
theorem float_back {l x : List UInt8} {c : UInt8} (h : ∃ w r, cut46 (sg l).2 = some (w, r)) (hG : isG c = false) (h43 : ¬ (c = 43 ∨ c = 45)) (hi : ∀ t : List UInt8, infW (t ++ (x ++ [c])) = false ∧ nanW (t ++ (x ++ [c])) = false) : float11 (l ++ (x ++ [c])) = zero6 := by
  obtain ⟨w, r, hc⟩ := h
  obtain ⟨e, h46⟩ := cut46_some hc
  have hne : (sg l).2 ≠ [] := by rw [e]; simp
  have hcd : ¬ (48 ≤ c.toNat ∧ c.toNat ≤ 57) := fun q => by rw [isG_of q] at hG; cases hG
  have hc2 : cut46 ((sg l).2 ++ (x ++ [c])) = some (w, r ++ (x ++ [c])) := by
    rw [e]
    have := cut46_at w (r ++ (x ++ [c])) h46
    rw [← this]; simp
  unfold float11
  rw [sg_put l _ hne]
  dsimp only
  rw [(hi (sg l).2).1, (hi (sg l).2).2, if_neg Bool.false_ne_true, if_neg (fun q => Bool.false_ne_true q.1), hc2]
  dsimp only
  obtain ⟨u, hu⟩ := drop_back c hG (r ++ x)
  unfold dec11
  rw [← List.append_assoc, hu, expo_back u c hcd h43]
theorem words_back (c : UInt8) (h : c ≠ 102 ∧ c ≠ 70 ∧ c ≠ 110 ∧ c ≠ 78) (x t : List UInt8) : infW (t ++ (x ++ [c])) = false ∧ nanW (t ++ (x ++ [c])) = false := by
  have key : ∀ (w : List UInt8) (d : UInt8), d ≠ c → (t ++ (x ++ [c]) == w ++ [d]) = false := fun w d hd => by
    refine beq_eq_false_iff_ne.2 (fun e => ?_)
    rw [← List.append_assoc] at e
    exact hd (List.cons.inj (List.append_inj' e rfl).2).1.symm
  unfold infW nanW
  rw [show (t ++ (x ++ [c]) == [46, 105, 110, 102]) = false from key [46, 105, 110] 102 (Ne.symm h.1), show (t ++ (x ++ [c]) == [46, 73, 110, 102]) = false from key [46, 73, 110] 102 (Ne.symm h.1), show (t ++ (x ++ [c]) == [46, 73, 78, 70]) = false from key [46, 73, 78] 70 (Ne.symm h.2.1), show (t ++ (x ++ [c]) == [46, 110, 97, 110]) = false from key [46, 110, 97] 110 (Ne.symm h.2.2.1), show (t ++ (x ++ [c]) == [46, 78, 97, 78]) = false from key [46, 78, 97] 78 (Ne.symm h.2.2.2), show (t ++ (x ++ [c]) == [46, 78, 65, 78]) = false from key [46, 78, 65] 78 (Ne.symm h.2.2.2)]
  exact ⟨rfl, rfl⟩
/-- a strange sign ahead -/
theorem float_head {l s : List UInt8} {c : UInt8} {r : List UInt8} (h : sg l = (s, c :: r)) (hc : ¬ (48 ≤ c.toNat ∧ c.toNat ≤ 57)) (h46 : c ≠ 46) : float11 l = zero6 := by
  have hw := wordless (l := c :: r) (by intro x hx e; have : x = c := (Option.some.inj (show some c = some x from hx)).symm
                                        rw [this] at e; exact absurd e h46)
  unfold float11
  rw [h]
  dsimp only
  rw [hw.1, hw.2, if_neg Bool.false_ne_true, if_neg (fun q => Bool.false_ne_true q.1)]
  rw [cut46, if_neg h46]
  cases cut46 r with
  | none => rfl
  | some p =>
    show dec11 _ (c :: p.1) p.2 = zero6
    unfold dec11
    cases expo11 (p.2.dropWhile isG) with
    | none => rfl
    | some z =>
      dsimp only
      rw [if_neg (List.cons_ne_nil _ _)]
      have : whole11 (c :: p.1) = none := by
        unfold whole11
        rw [if_neg (show ¬ firstD (c :: p.1) = true from fun q => hc (of_decide_eq_true q))]
      rw [this]
theorem Float11Apart : targumlaw7_Float11Apart.Pure := by
  intro s hs0
  obtain ⟨l, rfl⟩ : ∃ l, s = txt l := ⟨s.data.toList, (ext_list (by rw [txt_list])).symm⟩
  rw [txt_size] at hs0
  obtain ⟨K, hK⟩ : ∃ K, K = 20000 := ⟨_, rfl⟩
  refine ⟨K + 1, ?_⟩
  have hk := known7 (K + 1) (by omega)
  unfold targumlaw7_Float11Apart.f
  rw [hk, Option.bind_some, if_pos rfl, txt_size]
  by_cases hl : (l.length : Int) > 60
  · rw [if_pos hl]
  · have hl : l.length ≤ 60 := by omega
    rw [if_neg (by omega), Go.Proofs.YtkijneohhilboaaDoor.IntSpec.Is_eq l (by omega), Option.bind_some, Is11_eq l (by omega) _ (by omega)]
    have J : targumlaw7_Float11Apart.j0 (K + 1) (txt l) false = some true := by
      simp only [targumlaw7_Float11Apart.j0, Bool.false_eq_true, if_false]
      rw [Is11_eq l (by omega) K (by omega), Option.bind_some, Form11_eq l (by omega) K (by omega)]
      by_cases h0 : (float11 l).2.2.2.2 = 0
      · rw [h0, if_neg (by decide)]; rfl
      · obtain ⟨hc, h1, h5⟩ := float_some h0
        rw [decide_eq_true (show (float11 l).2.2.2.2 > 0 by omega), if_pos rfl, Option.bind_some, if_pos (by omega), if_pos (by omega), txt_size, if_pos (by omega)]
        have z := decide_eq_false (show ¬ zero6.2.2.2.2 > 0 by decide)
        have b1 : float11 (l ++ [32]) = zero6 := float_back (x := []) hc (by decide) (by decide) (words_back 32 (by decide) [])
        have b2 : float11 (l ++ [120]) = zero6 := float_back (x := []) hc (by decide) (by decide) (words_back 120 (by decide) [])
        have b3 : float11 (l ++ [46, 46]) = zero6 := float_back (x := [46]) hc (by decide) (by decide) (words_back 46 (by decide) [46])
        have b4 : float11 (32 :: l) = zero6 := float_head (s := []) (c := 32) (r := l) rfl (by decide) (by decide)
        have b5 : float11 (43 :: 45 :: l) = zero6 := float_head (s := [43]) (c := 45) (r := l) rfl (by decide) (by decide)
        have i1 := Is11_eq (l ++ [32]) (by rw [List.length_append, List.length_singleton]; omega) K (by omega)
        have i2 := Is11_eq (l ++ [120]) (by rw [List.length_append, List.length_singleton]; omega) K (by omega)
        have i3 := Is11_eq (l ++ [46, 46]) (by rw [List.length_append, List.length_cons, List.length_singleton]; omega) K (by omega)
        have i4 := Is11_eq (32 :: l) (by rw [List.length_cons]; omega) K (by omega)
        have i5 := Is11_eq (43 :: 45 :: l) (by rw [List.length_cons, List.length_cons]; omega) K (by omega)
        rw [b1, z] at i1
        rw [b2, z] at i2
        rw [b3, z] at i3
        rw [b4, z] at i4
        rw [b5, z] at i5
        obtain ⟨w, r, hcut⟩ := hc
        have hne : (sg l).2 ≠ [] := by rw [(cut46_some hcut).1]; simp
        have hm : 46 ∈ (sg (l ++ [120])).2 := by rw [sg_put l [120] hne]; exact List.mem_append.2 (.inl (cut46_mem hcut))
        have i6 := Go.Proofs.YtkijneohhilboaaDoor.IntSpec.Is_eq (l ++ [120]) (by rw [List.length_append, List.length_singleton]; omega)
        rw [int_no46 hm] at i6
        rw [show (⟨#[32]⟩ : ByteArray) = txt [32] from rfl, show (⟨#[43, 45]⟩ : ByteArray) = txt [43, 45] from rfl, show (⟨#[120]⟩ : ByteArray) = txt [120] from rfl, show (⟨#[46, 46]⟩ : ByteArray) = txt [46, 46] from rfl, app_txt, app_txt, app_txt, app_txt, app_txt, show [32] ++ l = 32 :: l from rfl, show [43, 45] ++ l = 43 :: 45 :: l from rfl]
        rw [i1, Option.bind_some, if_neg Bool.false_ne_true, if_pos (by omega), i4, Option.bind_some, if_neg Bool.false_ne_true, if_pos (by omega), i5, Option.bind_some, if_neg Bool.false_ne_true, i2, Option.bind_some, if_neg Bool.false_ne_true, if_pos (by omega), i3, Option.bind_some, if_neg Bool.false_ne_true, i6, Option.bind_some]
        rfl
    by_cases hi : (int11 l).2 = 0
    · rw [hi, if_neg (by decide)]; exact J
    · have hf : (float11 l).2.2.2.2 = 0 := by
        rcases Decidable.em ((float11 l).2.2.2.2 = 0) with q | q
        · exact q
        · obtain ⟨⟨w, r, hc⟩, _⟩ := float_some q
          exact absurd (int_no46 (cut46_mem hc)) hi
      rw [show ((int11 l).2 != 0) = true from bne_iff_ne.2 hi, if_pos rfl, Option.bind_some, hf]
      exact J
end Go.Proofs.YtkijneohhilboaaDoor.Pure
