/- The pure law Num12Both: what both schemas take for a number is one number in both. No conditions. -/
import Derived.Test.YtbjlcipamdgnjaaDoorNum12Law
import Derived.Test.YtbjlcipamdgnjaaDoorFloatSpec2
import Derived.Test.YtbjlcipamdgnjaaDoorPNx22
namespace Go.Proofs.YtbjlcipamdgnjaaDoor.Pure
set_option linter.unusedSimpArgs false
set_option linter.unusedVariables false
open Go.RowKit Go.Lib Go.Proofs.YtbjlcipamdgnjaaDoor.Room Go.Proofs.YtbjlcipamdgnjaaDoor.PN Go.Proofs.YtbjlcipamdgnjaaDoorW.PrintWords Go.Proofs.YtbjlcipamdgnjaaDoor.Aid Go.Proofs.YtbjlcipamdgnjaaDoor.Num Go.Proofs.YtbjlcipamdgnjaaDoor.BigFns Go.Proofs.YtbjlcipamdgnjaaDoor.BigQ Go.Proofs.YtbjlcipamdgnjaaDoor.RefBig Go.Proofs.YtbjlcipamdgnjaaDoor.DecSpec Go.Proofs.YtbjlcipamdgnjaaDoor.NumSpec Go.Proofs.YtbjlcipamdgnjaaDoor.IntSpec Go.Proofs.YtbjlcipamdgnjaaDoor.FloatSpec
theorem sift_digs {l : List UInt8} (h : Digs l) : sift l = l := by
  unfold sift
  rw [List.filter_eq_self]
  intro x hx
  have := h x hx
  rw [bne_iff_ne]
  intro e; subst e
  exact absurd this.2 (by decide)
theorem okG_digs {l : List UInt8} (h : Digs l) : okG 10 l = true := by
  unfold okG
  rw [List.all_eq_true]
  intro x hx
  have hx' : 48 ≤ x.toNat ∧ x.toNat ≤ 57 := h x hx
  have : digV x < 10 := by unfold digV; rw [if_pos hx']; omega
  rw [decide_eq_true this, Bool.or_true]
theorem bareL_digs {l : List UInt8} (h : Digs l) (hne : l ≠ []) : bareL 10 l = some l := by
  unfold bareL
  rw [sift_digs h, if_pos ⟨okG_digs h, hne⟩]
theorem noisD {x : UInt8} (h : isDig x) : isD x = true := decide_eq_true (p := 48 ≤ x.toNat ∧ x.toNat ≤ 57) h
/-- a whole number of digits, the forms behind the third -/
theorem core_digs {t : List UInt8} (h : Digs t) (hne : t ≠ []) {n : Nat} {f : Int} (hc : core11 t = some (n, f)) (hf : f > 3) : n = val t := by
  have h2 : ∀ b : UInt8, ¬ b.toNat ≤ 57 → t.take 2 ≠ [48, b] := fun b hb q => hb (h b (List.mem_of_mem_take (by rw [q]; simp))).2
  unfold core11 at hc
  rw [if_neg (h2 98 (by decide)), if_neg (h2 120 (by decide))] at hc
  by_cases h0 : t = [48]
  · rw [if_pos h0] at hc
    obtain ⟨rfl, rfl⟩ := Prod.mk.inj (Option.some.inj hc)
    rw [h0]; rfl
  · rw [if_neg h0] at hc
    by_cases h48 : t.head? = some 48
    · rw [if_pos h48] at hc
      obtain ⟨d, _, e⟩ := Option.map_eq_some_iff.1 hc
      obtain ⟨_, rfl⟩ := Prod.mk.inj e
      exact absurd hf (by decide)
    · rw [if_neg h48] at hc
      split at hc
      · rw [bareL_digs h hne] at hc
        obtain ⟨rfl, _⟩ := Prod.mk.inj (Option.some.inj hc)
        rfl
      · cases hc
theorem zero_form {l : List UInt8} (h : l.take 2 = [48, 111]) : int11 l = (⟨#[]⟩, 0) := by
  obtain ⟨r, rfl⟩ : ∃ r, l = 48 :: 111 :: r := by
    cases l with
    | nil => cases h
    | cons x l => cases l with
      | nil => cases h
      | cons y r =>
        have h' : [x, y] = [48, 111] := h
        simp at h'
        exact ⟨r, by rw [h'.1, h'.2]⟩
  have : core11 (48 :: 111 :: r) = none := by
    unfold core11
    rw [if_neg (by simp), if_neg (by simp), if_neg (by simp), if_pos (by rfl)]
    have : bareL 8 (List.drop 1 (48 :: 111 :: r)) = none := by
      show bareL 8 (111 :: r) = none
      unfold bareL
      rw [if_neg]
      intro q
      have := q.1
      rw [okG_cons] at this
      have e : ((111 : UInt8) == 95 || decide (digV 111 < 8)) = false := by decide
      rw [e, Bool.false_and] at this
      cases this
    rw [this]; rfl
  unfold int11
  rw [show sg (48 :: 111 :: r) = ([], 48 :: 111 :: r) from rfl, this]
theorem hex_form {l : List UInt8} (h : l.take 2 = [48, 120]) : ¬ (int11 l).2 > 3 := by
  obtain ⟨r, rfl⟩ : ∃ r, l = 48 :: 120 :: r := by
    cases l with
    | nil => cases h
    | cons x l => cases l with
      | nil => cases h
      | cons y r =>
        have h' : [x, y] = [48, 120] := h
        simp at h'
        exact ⟨r, by rw [h'.1, h'.2]⟩
  unfold int11
  rw [show sg (48 :: 120 :: r) = ([], 48 :: 120 :: r) from rfl]
  unfold core11
  rw [if_neg (by simp), if_pos (by rfl)]
  cases bareL 16 (List.drop 2 (48 :: 120 :: r)) with
  | none => exact (show ¬ (0 : Int) > 3 by decide)
  | some d => exact (show ¬ (2 : Int) > 3 by decide)
theorem ints_both {l : List UInt8} (h : (int12 l).toList ≠ []) (hf : (int11 l).2 > 3) : int12 l = (int11 l).1 := by
  by_cases h1 : l.take 2 = [48, 111]
  · rw [zero_form h1] at hf; exact absurd hf (by decide)
  · by_cases h2 : l.take 2 = [48, 120]
    · exact absurd hf (hex_form h2)
    · unfold int12 normS at h ⊢
      rw [if_neg h1, if_neg h2] at h ⊢
      cases ho : okD (sg l).2 with
      | false => rw [ho, if_neg Bool.false_ne_true] at h; exact absurd nil_toList h
      | true =>
        rw [if_pos rfl]
        obtain ⟨hd, hne⟩ := (okD_iff _).1 ho
        have hi : int11 l = intO ((sg l).1 == [45]) (core11 (sg l).2) := rfl
        rw [hi] at hf ⊢
        cases hc : core11 (sg l).2 with
        | none => rw [hc] at hf; exact absurd hf (show ¬ (0 : Int) > 3 by decide)
        | some p =>
          rw [hc] at hf
          have := core_digs hd hne (n := p.1) (f := p.2) hc hf
          show num (sv l) = num (if ((sg l).1 == [45]) = true then -(p.1 : Int) else (p.1 : Int))
          rw [this]
          rfl
theorem form5 {l : List UInt8} (hf : (int11 l).2 = 5) : ¬ (int11 l).1.toList = [] := by
  have hi : int11 l = intO ((sg l).1 == [45]) (core11 (sg l).2) := rfl
  rw [hi] at hf ⊢
  cases hc : core11 (sg l).2 with
  | none => rw [hc] at hf; exact absurd hf (show ¬ (0 : Int) = 5 by decide)
  | some p => exact num_ne _
theorem dec_zero6 (d : D6) (h : d = zero6) : d.2.2.2.2 = 0 := by rw [h]; rfl
/-- a decimal of both schemas -/
theorem floats_both {l : List UInt8} (h : (float12 l).2.2.2.2 = true) (hf : (float11 l).2.2.2.2 ≠ 0) : (float12 l).1 = (float11 l).1 ∧ (float12 l).2.1 = (float11 l).2.1 ∧ (float12 l).2.2.1 = (float11 l).2.2.1 ∧ (float12 l).2.2.2.1 = (float11 l).2.2.2.1 := by
  have key : ∀ (neg : Bool) (w f : List UInt8) (z : Int) (form : Int), (makeN neg (w ++ f) z).1 = (six5 (makeN neg (w ++ f) z) form).1 ∧ (makeN neg (w ++ f) z).2.1 = (six5 (makeN neg (w ++ f) z) form).2.1 ∧ (makeN neg (w ++ f) z).2.2.1 = (six5 (makeN neg (w ++ f) z) form).2.2.1 ∧ (makeN neg (w ++ f) z).2.2.2.1 = (six5 (makeN neg (w ++ f) z) form).2.2.2.1 := fun _ _ _ _ _ => ⟨rfl, rfl, rfl, rfl⟩
  unfold float12 at h ⊢
  unfold float11 at hf ⊢
  cases h1 : infW (sg l).2 with
  | true =>
    have hw : wordD (sg l).1 (sg l).2 = (1, ((sg l).1 == [45]), ⟨#[]⟩, ⟨#[]⟩, true) := by unfold wordD; rw [h1, if_pos rfl]
    rw [hw, if_pos rfl, if_pos rfl]
    exact ⟨rfl, rfl, rfl, rfl⟩
  | false =>
    rw [h1, if_neg Bool.false_ne_true] at hf
    rw [if_neg Bool.false_ne_true]
    by_cases h2 : nanW (sg l).2 = true ∧ (sg l).1 = []
    · have hw : wordD (sg l).1 (sg l).2 = (2, false, ⟨#[]⟩, ⟨#[]⟩, true) := by unfold wordD; rw [h1, if_neg Bool.false_ne_true, h2.1, if_pos rfl, h2.2]; rfl
      rw [hw, if_pos rfl, if_pos h2]
      exact ⟨rfl, rfl, rfl, rfl⟩
    · rw [if_neg h2] at hf ⊢
      have hw : (wordD (sg l).1 (sg l).2).2.2.2.2 = false := by
        unfold wordD
        rw [h1, if_neg Bool.false_ne_true]
        cases hn : nanW (sg l).2 with
        | false => rw [if_neg Bool.false_ne_true]; rfl
        | true =>
          rw [if_pos rfl]
          exact beq_eq_false_iff_ne.2 (fun e => h2 ⟨hn, e⟩)
      rw [hw, if_neg Bool.false_ne_true] at h ⊢
      by_cases hi : (int12 l).toList ≠ []
      · rw [if_pos hi] at h; cases h
      · rw [if_neg hi] at h ⊢
        generalize ((sg l).1 == [45]) = neg at *
        have hokno : ¬ (Digs (sg l).2 ∧ (sg l).2 ≠ [] ∧ l.take 2 ≠ [48, 111] ∧ l.take 2 ≠ [48, 120]) := by
          rintro ⟨a, b, c, d⟩
          apply hi
          unfold int12 normS
          rw [if_neg c, if_neg d, (okD_iff _).2 ⟨a, b⟩, if_pos rfl]
          exact num_ne _
        have hpre : (sg l).1 ++ (sg l).2 = l := sg_app l
        have htk : ∀ b : UInt8, ¬ b.toNat ≤ 57 → Digs (sg l).2 → l.take 2 ≠ [48, b] := by
          intro b hb hd q
          have hm : b ∈ l := List.mem_of_mem_take (by rw [q]; simp)
          rw [← hpre] at hm
          rcases List.mem_append.1 hm with e | e
          · have : (sg l).1 = [] ∨ (sg l).1 = [43] ∨ (sg l).1 = [45] := by
              cases l with
              | nil => exact .inl rfl
              | cons x r =>
                unfold sg; dsimp only
                by_cases h1 : x = 43
                · rw [if_pos (.inl h1), h1]; exact .inr (.inl rfl)
                · by_cases h2 : x = 45
                  · rw [if_pos (.inr h2), h2]; exact .inr (.inr rfl)
                  · rw [if_neg (by simp [h1, h2])]; exact .inl rfl
            rcases this with q | q | q
            · rw [q] at e; cases e
            · rw [q, List.mem_singleton] at e; subst e; exact hb (by decide)
            · rw [q, List.mem_singleton] at e; subst e; exact hb (by decide)
          · exact hb (hd b e).2
        generalize (sg l).2 = t at *
        unfold flo at h ⊢
        have hW := tw_digs t
        have htt := List.takeWhile_append_dropWhile (p := isD) (l := t)
        generalize hWe : t.takeWhile isD = W at *
        generalize hDe : t.dropWhile isD = D at *
        cases D with
        | nil =>
          exfalso
          rw [List.append_nil] at htt
          subst htt
          have hx : fin neg W (frac []).1 (frac []).2 = if W = [] then zeroD else makeN neg W (0 - (([] : List UInt8).length : Nat)) := by
            show (if W ++ [] = [] then zeroD else makeN neg (W ++ []) (0 - (([] : List UInt8).length : Nat))) = _
            rw [List.append_nil]
          rw [hx] at h
          by_cases hn : W = []
          · rw [if_pos hn] at h; cases h
          · exact hokno ⟨hW, hn, htk 111 (by decide) hW, htk 120 (by decide) hW⟩
        | cons x q =>
          by_cases hx : x = 46
          · subst hx
            have hfr : frac (46 :: q) = (q.takeWhile isD, q.dropWhile isD) := by unfold frac; dsimp only; rw [if_pos rfl]
            rw [hfr] at h ⊢
            have hcut : cut46 t = some (W, q) := by
              rw [← htt]
              clear htt hWe hDe h hf hokno htk
              induction W with
              | nil => rfl
              | cons y W ih =>
                have hy : y ≠ 46 := fun e => by subst e; exact absurd (hW 46 (by simp)).1 (by decide)
                rw [List.cons_append, cut46, if_neg hy, ih (fun z hz => hW z (by simp [hz]))]
                rfl
            rw [hcut] at hf ⊢
            dsimp only at h hf ⊢
            unfold fin at h ⊢
            unfold dec11 at hf ⊢
            have hF := tw_digs q
            have htq := List.takeWhile_append_dropWhile (p := isD) (l := q)
            generalize hFe : q.takeWhile isD = F at *
            generalize hTe : q.dropWhile isD = T at *
            have hexp : ∀ z, expo T = some z → (∀ x ∈ T.head?, isD x = false) ∧ T.head? ≠ some 95 := by
              intro z hz
              cases T with
              | nil => exact ⟨fun x hx => by simp at hx, by simp⟩
              | cons y r =>
                have hz' : (if (y = 101 ∨ y = 69) ∧ okD (sg r).2 = true then some (sv r) else none) = some z := hz
                split at hz'
                · rename_i hc
                  rcases hc.1 with e | e <;> subst e
                  · exact ⟨fun x hx => by simp at hx; subst hx; decide, by simp⟩
                  · exact ⟨fun x hx => by simp at hx; subst hx; decide, by simp⟩
                · cases hz'
            cases hz : expo T with
            | none => rw [hz] at h; exact absurd h Bool.false_ne_true
            | some z =>
              obtain ⟨st1, st2⟩ := hexp z hz
              rw [hz] at h
              dsimp only at h ⊢
              have hrow : q.takeWhile isG = F ∧ q.dropWhile isG = T := by
                rw [← htq]
                have hg : ∀ x ∈ F, isG x = true := fun x hx => by unfold isG; rw [noisD (hF x hx)]; rfl
                rw [List.takeWhile_append_of_pos hg, List.dropWhile_append_of_pos hg]
                cases T with
                | nil => simp
                | cons y r =>
                  have hy : isG y = false := by
                    unfold isG
                    rw [st1 y (by simp), beq_eq_false_iff_ne.2 (fun e => st2 (by rw [e]; rfl))]; rfl
                  rw [List.takeWhile_cons, List.dropWhile_cons, hy]
                  simp
              rw [hrow.1, hrow.2, sift_digs hF] at hf ⊢
              cases hz2 : expo11 T with
              | none => rw [hz2] at hf; exact absurd rfl hf
              | some z2 =>
                have hzz : z2 = z := by
                  cases T with
                  | nil =>
                    have a : some (0 : Int) = some z := hz
                    have b : some (0 : Int) = some z2 := hz2
                    rw [a] at b; exact (Option.some.inj b).symm
                  | cons y r =>
                    have a : (if (y = 101 ∨ y = 69) ∧ okD (sg r).2 = true then some (sv r) else none) = some z := hz
                    have b : (if (y = 101 ∨ y = 69) ∧ (sg r).1 ≠ [] ∧ okD (sg r).2 = true then some (sv r) else none) = some z2 := hz2
                    split at a
                    · split at b
                      · rw [a] at b; exact (Option.some.inj b).symm
                      · cases b
                    · cases a
                subst hzz
                rw [hz2] at hf
                dsimp only at hf ⊢
                by_cases hne : W ++ F = []
                · rw [if_pos hne] at h; cases h
                · rw [if_neg hne] at h ⊢
                  by_cases hw0 : W = []
                  · subst hw0
                    rw [if_pos rfl] at hf ⊢
                    have hf0 : F ≠ [] := hne
                    rw [if_neg hf0]
                    exact key neg [] F _ 2
                  · rw [if_neg hw0] at hf ⊢
                    obtain ⟨x, w', rfl⟩ : ∃ x w', W = x :: w' := by cases W with
                      | nil => exact absurd rfl hw0
                      | cons x w' => exact ⟨x, w', rfl⟩
                    have hwh : whole11 (x :: w') = some (x :: w', 1) := by
                      unfold whole11
                      rw [show firstD (x :: w') = true from noisD (hW x (by simp)), if_pos rfl, bareL_digs hW hw0]
                    rw [hwh]
                    dsimp only
                    rw [if_neg (fun q => absurd q.1 (by decide))]
                    exact key neg (x :: w') F _ 1
          · have hfr : frac (x :: q) = ([], x :: q) := by unfold frac; dsimp only; rw [if_neg hx]
            rw [hfr] at h
            unfold fin at h
            have hz' : expo (x :: q) = (if (x = 101 ∨ x = 69) ∧ okD (sg q).2 = true then some (sv q) else none) := rfl
            dsimp only at h
            rw [hz'] at h
            split at h
            · cases h
            · rename_i z hz
              split at hz
              · rename_i hc
                exfalso
                have h46 : 46 ∉ t := by
                  rw [← htt]
                  intro hm
                  rcases List.mem_append.1 hm with e | e
                  · exact absurd (hW 46 e).1 (by decide)
                  · rcases List.mem_cons.1 e with e | e
                    · exact hx e.symm
                    · rw [← sg_app q] at e
                      rcases List.mem_append.1 e with e | e
                      · have : (sg q).1 = [] ∨ (sg q).1 = [43] ∨ (sg q).1 = [45] := by
                          cases q with
                          | nil => exact .inl rfl
                          | cons x r =>
                            unfold sg; dsimp only
                            by_cases h1 : x = 43
                            · rw [if_pos (.inl h1), h1]; exact .inr (.inl rfl)
                            · by_cases h2 : x = 45
                              · rw [if_pos (.inr h2), h2]; exact .inr (.inr rfl)
                              · rw [if_neg (by simp [h1, h2])]; exact .inl rfl
                        rcases this with q' | q' | q' <;> rw [q'] at e <;> simp at e
                      · exact absurd ((okD_iff _).1 hc.2).1 (fun hd => absurd (hd 46 e).1 (by decide))
                cases hcut : cut46 t with
                | none => rw [hcut] at hf; exact absurd rfl hf
                | some p =>
                  obtain ⟨e1, e2⟩ := cut46_some (w := p.1) (r := p.2) hcut
                  exact h46 (by rw [e1]; simp)
              · cases hz
theorem Num12Both : targumlaw8_Num12Both.Pure := by
  intro s hs0
  obtain ⟨l, rfl⟩ : ∃ l, s = txt l := ⟨s.data.toList, (ext_list (by rw [txt_list])).symm⟩
  obtain ⟨K, hK⟩ : ∃ K, K = 120000 := ⟨_, rfl⟩
  refine ⟨K + 1, ?_⟩
  have hk := known8 (K + 1) (by omega)
  unfold targumlaw8_Num12Both.f
  rw [hk, Option.bind_some, if_pos rfl, txt_size]
  by_cases c1 : (l.length : Int) > 60
  · rw [if_pos c1]
  · rw [if_neg c1, Int_eq l (by omega) (K + 1) (by omega), Option.bind_some, Int11_eq l (by omega) (K + 1) (by omega), Option.bind_some]
    have J : targumlaw8_Num12Both.j0 (K + 1) (txt l) false = some true := by
      simp only [targumlaw8_Num12Both.j0, Bool.false_eq_true, if_false]
      rw [Float_eq l (by omega) K (by omega), Option.bind_some, Float11_eq l (by omega) K (by omega), Option.bind_some]
      cases h1 : (float12 l).2.2.2.2 with
      | false => rw [if_neg Bool.false_ne_true]
      | true =>
        rw [if_pos rfl]
        by_cases h2 : (float11 l).2.2.2.2 = 0
        · rw [if_pos h2]
        · obtain ⟨a, b, c, d⟩ := floats_both h1 h2
          rw [if_neg h2, a, b, c, d, beq_self_eq_true, beq_self_eq_true, beq_self_eq_true, beq_self_eq_true]
          rfl
    dsimp only
    by_cases h12 : (int12 l).toList = []
    · rw [show ((int12 l).toList != ([] : List UInt8)) = false by rw [h12]; rfl, if_neg Bool.false_ne_true]
      exact J
    · rw [show ((int12 l).toList != ([] : List UInt8)) = true from bne_iff_ne.2 h12, if_pos rfl]
      by_cases hf : (int11 l).2 > 3
      · have e := ints_both h12 hf
        rw [if_pos hf, if_pos (by rw [e])]
        by_cases h5 : (int11 l).2 = 5
        · have hz : (((int12 l).size : Int) == 0) = false := by
            rw [beq_eq_false_iff_ne]
            intro q
            apply h12
            have : (int12 l).data.toList.length = 0 := by rw [← Lib.size_eq]; omega
            rw [Lib.toList_data]
            exact List.length_eq_zero_iff.1 this
          rw [if_pos h5, hz]; exact J
        · rw [if_neg h5]; exact J
      · rw [if_neg hf, if_neg (by omega)]; exact J
end Go.Proofs.YtbjlcipamdgnjaaDoor.Pure
