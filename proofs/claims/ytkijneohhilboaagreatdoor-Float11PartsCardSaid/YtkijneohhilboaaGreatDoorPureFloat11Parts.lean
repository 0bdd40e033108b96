/- The pure law Float11Parts: digits ahead of a point, behind it, and a power with its sign are that decimal. No conditions. -/
import Derived.Test.YtkijneohhilboaaGreatDoorFloat11Dig
import Derived.Test.YtkijneohhilboaaGreatDoorPKx13
namespace Go.Proofs.YtkijneohhilboaaGreatDoor.Pure
set_option linter.unusedSimpArgs false
set_option linter.unusedVariables false
open Go.RowKit Go.Lib Go.Proofs.YtkijneohhilboaaGreatDoor.Room Go.Proofs.YtkijneohhilboaaGreatDoor.PK Go.Proofs.YtkijneohhilboaaGreatDoorW.PrintWords Go.Proofs.YtkijneohhilboaaGreatDoor.Aid Go.Proofs.YtkijneohhilboaaGreatDoor.Num Go.Proofs.YtkijneohhilboaaGreatDoor.BigFns Go.Proofs.YtkijneohhilboaaGreatDoor.BigQ Go.Proofs.YtkijneohhilboaaGreatDoor.RefBig Go.Proofs.YtkijneohhilboaaGreatDoor.DecSpec Go.Proofs.YtkijneohhilboaaGreatDoor.NumSpec Go.Proofs.YtkijneohhilboaaGreatDoor.IntSpec Go.Proofs.YtkijneohhilboaaGreatDoor.FSix Go.Proofs.YtkijneohhilboaaGreatDoor.FloatSpec
theorem sift_digs {l : List UInt8} (h : Digs l) : sift l = l := sift_no (digs_no h (by decide))
/-- digits, a point, digits, a power or none -/
theorem float11_parts (s W F t : List UInt8) (hs : s = [] ∨ s = [43] ∨ s = [45]) (hW : Digs W) (hF : Digs F) (hne : W ++ F ≠ []) (ht : ∀ x ∈ t.head?, isG x = false) :
    float11 (s ++ (W ++ 46 :: (F ++ t))) = match expo11 t with | none => zero6 | some z => six5 (makeN (s == [45]) (W ++ F) (z - F.length)) (if W = [] then 2 else 1) := by
  have h46 : 46 ∉ W := digs_no hW (by decide)
  have hh : ∀ x ∈ (W ++ 46 :: (F ++ t)).head?, x = 46 ∨ (48 ≤ x.toNat ∧ x.toNat ≤ 57) := by
    intro x hx
    cases W with
    | nil => exact .inl (Option.some.inj hx).symm
    | cons a W =>
      obtain rfl : a = x := Option.some.inj hx
      exact .inr (hW a (by simp))
  have hr : W = [] → ∃ y ∈ (F ++ t).head?, 48 ≤ y.toNat ∧ y.toNat ≤ 57 := by
    intro e
    cases F with
    | nil => rw [e] at hne; exact absurd rfl hne
    | cons a F => exact ⟨a, rfl, hF a (by simp)⟩
  rw [float11_at s W (F ++ t) hs h46 hh hr]
  by_cases hw : W = []
  · subst hw
    rw [dec11_point _ F t (digs_G hF) ht, sift_digs hF, if_pos rfl]
    have hF0 : F ≠ [] := by rw [List.nil_append] at hne; exact hne
    cases expo11 t with
    | none => rfl
    | some z => dsimp only; rw [if_neg hF0, List.nil_append]
  · have hd : ∃ x ∈ W.head?, 48 ≤ x.toNat ∧ x.toNat ≤ 57 := by
      cases W with
      | nil => exact absurd rfl hw
      | cons a W => exact ⟨a, rfl, hW a (by simp)⟩
    rw [dec11_plain _ W F t hw hd (digs_G hW) (digs_G hF) ht, sift_digs hW, sift_digs hF, if_neg hw]
    cases expo11 t <;> rfl
theorem parts_j5 (neg : Bool) (S : List UInt8) (form : Int) (hform : form > 0) (M : D5) (hS : S.length ≤ 97) (h : ∀ s : List UInt8, (s = [] ∨ s = [43] ∨ s = [45]) → ∃ N : D5, float11 (s ++ S) = six5 N form ∧ N.2.2.2.2 = true ∧ ((s == [45]) = neg → N = M)) (k : Nat) (hk : 12000 ≤ k) :
    targumlaw7_Float11Parts.j5 (k + 1) neg (txt S) form M.1 M.2.1 M.2.2.1 M.2.2.2.1 = some true := by
  have go : ∀ s : List UInt8, s = [43] ∨ s = [45] → (s == [45]) = neg → float11_Of.f k (txt (s ++ S)) = some M ∧ M.2.2.2.2 = true ∧ float11_Form.f k (txt (s ++ S)) = some form := fun s hs hn => by
    obtain ⟨N, h1, h2, h3⟩ := h s (.inr hs)
    have hl : (s ++ S).length ≤ 100 := by rw [List.length_append]; rcases hs with rfl | rfl <;> simp <;> omega
    have e := h3 hn
    subst e
    have eN : ofD (six5 N form) = N := by
      show (N.1, N.2.1, N.2.2.1, N.2.2.2.1, decide (form > 0)) = N
      rw [decide_eq_true hform, ← h2]
    rw [Of11_eq _ hl k hk, Form11_eq _ hl k hk, h1, eN]
    exact ⟨rfl, h2, rfl⟩
  have f0 : float11_Form.f k (txt S) = some form := by
    obtain ⟨N, h1, _⟩ := h [] (.inl rfl)
    rw [List.nil_append] at h1
    rw [Form11_eq _ (by omega) k hk, h1]; rfl
  have hb : (M.1 == M.1 && (M.2.1 == M.2.1 && (M.2.2.1.toList == M.2.2.1.toList && (M.2.2.2.1.toList == M.2.2.2.1.toList)))) = true := eqD M M rfl
  simp only [targumlaw7_Float11Parts.j5]
  cases neg with
  | true =>
    obtain ⟨g1, g2, g3⟩ := go [45] (.inr rfl) rfl
    rw [if_pos rfl, txt_size, if_pos (by omega), show (⟨#[45]⟩ : ByteArray) = txt [45] from rfl, app_txt, g1, Option.bind_some, if_pos g2, if_pos hb, f0, Option.bind_some, if_pos rfl, g3, Option.bind_some, beq_self_eq_true]
  | false =>
    obtain ⟨g1, g2, g3⟩ := go [43] (.inl rfl) rfl
    rw [if_neg Bool.false_ne_true, txt_size, if_pos (by omega), show (⟨#[43]⟩ : ByteArray) = txt [43] from rfl, app_txt, g1, Option.bind_some, if_pos g2, if_pos hb, f0, Option.bind_some, if_pos rfl, g3, Option.bind_some, beq_self_eq_true]
theorem parts7_j4 (w f : ByteArray) (hw : w.size ≤ 30) (hf : f.size ≤ 30) (hne : digL w.data.toList ++ digL f.data.toList ≠ []) (neg : Bool) (t : List UInt8) (z : Int) (ht : ∀ x ∈ t.head?, isG x = false) (he : expo11 t = some z) (hl : t.length ≤ 35) (hz : (itoa z).length ≤ 100) (k : Nat) (hk : 120000 ≤ k) :
    targumlaw7_Float11Parts.j4 (k + 2) w f neg (txt (digL w.data.toList ++ 46 :: (digL f.data.toList ++ t))) (num z) = some true := by
  have hW := digL_digs w.data.toList
  have hF := digL_digs f.data.toList
  have lW : (digL w.data.toList).length = w.size := by rw [digL_length, ← Lib.size_eq]
  have lF : (digL f.data.toList).length = f.size := by rw [digL_length, ← Lib.size_eq]
  have key := fun s hs => float11_parts s (digL w.data.toList) (digL f.data.toList) t hs hW hF hne ht
  have dw := digits7 w (by omega) (k + 1) (by omega)
  have df := digits7 f (by omega) (k + 1) (by omega)
  have hwe : (w.size : Int) = 0 ↔ digL w.data.toList = [] := by
    rw [← lW]
    exact ⟨fun q => List.length_eq_zero_iff.1 (by omega), fun q => by rw [q]; rfl⟩
  obtain ⟨W, hWe⟩ : ∃ W, digL w.data.toList = W := ⟨_, rfl⟩
  obtain ⟨F, hFe⟩ : ∃ F, digL f.data.toList = F := ⟨_, rfl⟩
  rw [hWe] at hW lW key dw hwe hne ⊢
  rw [hFe] at hF lF key df hne ⊢
  have mk := rMake_yes neg W F z (by omega) (by omega) (by omega) (hW.append hF) hne (k + 1) (by omega)
  simp only [targumlaw7_Float11Parts.j4]
  rw [dw, Option.bind_some, df, Option.bind_some, mk, Option.bind_some]
  have fin : ∀ form : Int, form = (if W = [] then 2 else 1) → targumlaw7_Float11Parts.j5 (k + 1) neg (txt (W ++ 46 :: (F ++ t))) form (makeN neg (W ++ F) (z - F.length)).1 (makeN neg (W ++ F) (z - F.length)).2.1 (makeN neg (W ++ F) (z - F.length)).2.2.1 (makeN neg (W ++ F) (z - F.length)).2.2.2.1 = some true := fun form hform => by
    refine parts_j5 neg _ form (by rw [hform]; split <;> decide) _ (by rw [List.length_append, List.length_cons, List.length_append]; omega) (fun s hs => ?_) k (by omega)
    refine ⟨makeN (s == [45]) (W ++ F) (z - F.length), ?_, (makeN_zero _ _ _).2, fun e => by rw [e]⟩
    rw [key s hs, he, hform]
  by_cases hw0 : (w.size : Int) = 0
  · rw [if_pos hw0]; exact fin 2 (by rw [if_pos (hwe.1 hw0)])
  · rw [if_neg hw0]; exact fin 1 (by rw [if_neg (fun q => hw0 (hwe.2 q))])
theorem Float11Parts : targumlaw7_Float11Parts.Pure := by
  intro w f e neg down power upper hw0 hf0 he0
  obtain ⟨K, hK⟩ : ∃ K, K = 120000 := ⟨_, rfl⟩
  refine ⟨K + 6, ?_⟩
  have hk := known7 (K + 6) (by omega)
  unfold targumlaw7_Float11Parts.f
  rw [hk, Option.bind_some, if_pos rfl, wrap_id (by omega) (by omega)]
  have J0 : targumlaw7_Float11Parts.j0 (K + 6) w f e neg down power upper true = some true := by simp only [targumlaw7_Float11Parts.j0, if_true]
  by_cases h1 : (w.size : Int) + (f.size : Int) < 1
  · rw [if_pos h1]; exact J0
  · rw [if_neg h1]
    by_cases h2 : (w.size : Int) > 30
    · rw [if_pos h2]; exact J0
    · rw [if_neg h2]
      by_cases h3 : (f.size : Int) > 30
      · rw [if_pos h3]; exact J0
      · rw [if_neg h3]
        by_cases h4 : (e.size : Int) < 1
        · rw [if_pos h4]; exact J0
        · rw [if_neg h4]
          by_cases h5 : (e.size : Int) > 30
          · rw [decide_eq_true h5]; exact J0
          · rw [decide_eq_false h5]
            have hw : w.size ≤ 30 := by omega
            have hf : f.size ≤ 30 := by omega
            have he : e.size ≤ 30 := by omega
            have hE := digL_digs e.data.toList
            have lW : (digL w.data.toList).length = w.size := by rw [digL_length, ← Lib.size_eq]
            have lF : (digL f.data.toList).length = f.size := by rw [digL_length, ← Lib.size_eq]
            have lE : (digL e.data.toList).length = e.size := by rw [digL_length, ← Lib.size_eq]
            have hW := digL_digs w.data.toList
            have hF := digL_digs f.data.toList
            have hne : digL w.data.toList ++ digL f.data.toList ≠ [] := fun q => by
              have := congrArg List.length q
              rw [List.length_append, List.length_nil] at this
              omega
            have J4 := fun t z ht hex hl hz => parts7_j4 w f hw hf hne neg t z ht hex hl hz
            have key := float11_parts [] (digL w.data.toList) (digL f.data.toList)
            have dw := digits7 w (by omega) (K + 4) (by omega)
            have df := digits7 f (by omega) (K + 4) (by omega)
            have de := digits7 e (by omega) (K + 2) (by omega)
            obtain ⟨W, hWe⟩ : ∃ W, digL w.data.toList = W := ⟨_, rfl⟩
            obtain ⟨F, hFe⟩ : ∃ F, digL f.data.toList = F := ⟨_, rfl⟩
            obtain ⟨E, hEe⟩ : ∃ E, digL e.data.toList = E := ⟨_, rfl⟩
            rw [hWe, hFe] at J4 hne key
            rw [hWe] at dw lW hW
            rw [hFe] at df lF hF
            rw [hEe] at de lE hE
            have hEne : E ≠ [] := fun q => by rw [q] at lE; simp at lE; omega
            have okE : okD E = true := (okD_iff _).2 ⟨hE, hEne⟩
            have vE := val_lt E hE
            have pE : (10 : Nat) ^ E.length ≤ 10 ^ 30 := Nat.pow_le_pow_right (by decide) (by omega)
            have lz : ∀ z : Int, z.natAbs = val E → (itoa z).length ≤ 100 := fun z hz => by
              have h1 := itoa_len z
              have h2 := dec_len_val E hE
              rw [hz] at h1
              omega
            have z0 : (num 0) = (⟨#[48]⟩ : ByteArray) := by rw [show (0 : Int) = ((0 : Nat) : Int) from rfl, num_nat, dec_zero]; rfl
            simp only [targumlaw7_Float11Parts.j0, Bool.false_eq_true, if_false]
            have J1 : targumlaw7_Float11Parts.j1 (K + 5) w f e neg down power upper false = some true := by
              simp only [targumlaw7_Float11Parts.j1, Bool.false_eq_true, if_false]
              rw [dw, Option.bind_some, txt_size, if_pos (by omega), df, Option.bind_some, show (⟨#[46]⟩ : ByteArray) = txt [46] from rfl, app_txt, app_txt, txt_size, txt_size, if_pos (by rw [List.length_append, List.length_singleton]; omega)]
              have eS : W ++ [46] ++ F = W ++ 46 :: F := by simp
              rw [eS]
              have lS : (W ++ 46 :: F).length = w.size + f.size + 1 := by rw [List.length_append, List.length_cons]; omega
              cases power with
              | false =>
                rw [if_neg Bool.false_ne_true]
                have := J4 [] 0 (by simp) rfl (by simp) (by rw [itoa_zero]; simp) (K + 2) (by omega)
                rw [List.append_nil, z0] at this
                exact this
              | true =>
                rw [if_pos rfl]
                have j3 : ∀ (c : UInt8) (hc : c = 101 ∨ c = 69) (sn : UInt8), (sn = if down = true then 45 else 43) → targumlaw7_Float11Parts.j3 (K + 3) w f e neg down (txt (W ++ 46 :: F)) (txt [c]) (txt [sn]) = some true := fun c hc sn hsn => by
                  have hsn' : sn = 43 ∨ sn = 45 := by rw [hsn]; split; exact .inr rfl; exact .inl rfl
                  have cG : isG c = false := by rcases hc with rfl | rfl <;> decide
                  have t1 : ∀ x ∈ (c :: E).head?, isG x = false := fun x hx => by obtain rfl : c = x := Option.some.inj hx; exact cG
                  have t2 : ∀ x ∈ (c :: sn :: E).head?, isG x = false := fun x hx => by obtain rfl : c = x := Option.some.inj hx; exact cG
                  have hE1 : (sg E) = ([], E) := sg_digs hE
                  have x1 : expo11 (c :: E) = none := by
                    show (if (c = 101 ∨ c = 69) ∧ (sg E).1 ≠ [] ∧ okD (sg E).2 = true then some (sv E) else none) = none
                    rw [hE1, if_neg (fun q => q.2.1 rfl)]
                  have x2 : expo11 (c :: sn :: E) = some (if down = true then -(val E : Int) else (val E : Int)) := by
                    show (if (c = 101 ∨ c = 69) ∧ (sg (sn :: E)).1 ≠ [] ∧ okD (sg (sn :: E)).2 = true then some (sv (sn :: E)) else none) = _
                    unfold sv
                    rw [sg_sign hsn', if_pos ⟨hc, List.cons_ne_nil _ _, okE⟩]
                    cases down <;> (rw [hsn]; rfl)
                  have i1 : float11_Is.f (K + 2) (txt (W ++ 46 :: (F ++ c :: E))) = some false := by
                    have := key (c :: E) (.inl rfl) hW hF hne t1
                    rw [List.nil_append, x1] at this
                    rw [Is11_eq _ (by rw [List.length_append, List.length_cons, List.length_append, List.length_cons]; omega) (K + 2) (by omega), this]; rfl
                  have nm : targumref4_Norm.f (K + 2) down (txt E) = some (num (if down = true then -(val E : Int) else (val E : Int))) := by
                    rw [rNorm_any down E (by omega) (K + 2) (by omega), okE, if_pos rfl]
                  have fin := J4 (c :: sn :: E) _ t2 x2 (by simp only [List.length_cons]; omega) (lz _ (by split <;> omega)) K (by omega)
                  have e1 : W ++ 46 :: F ++ [c] ++ E = W ++ 46 :: (F ++ c :: E) := by simp
                  have e2 : W ++ 46 :: F ++ [c] ++ [sn] ++ E = W ++ 46 :: (F ++ c :: sn :: E) := by simp
                  simp only [targumlaw7_Float11Parts.j3]
                  rw [txt_size, txt_size, if_pos (by rw [List.length_singleton]; omega), de, Option.bind_some, app_txt, txt_size, txt_size, if_pos (by rw [List.length_append, List.length_singleton]; omega), app_txt, e1, i1, Option.bind_some, if_neg Bool.false_ne_true, txt_size, if_pos (by rw [List.length_append, List.length_singleton, List.length_singleton]; omega), Option.bind_some, app_txt, txt_size, txt_size, if_pos (by rw [List.length_append, List.length_append, List.length_singleton, List.length_singleton]; omega), Option.bind_some, nm, Option.bind_some, app_txt, e2]
                  exact fin
                have j2 : ∀ c : UInt8, c = 101 ∨ c = 69 → targumlaw7_Float11Parts.j2 (K + 4) w f e neg down (txt (W ++ 46 :: F)) (txt [c]) (⟨#[43]⟩ : ByteArray) = some true := fun c hc => by
                  simp only [targumlaw7_Float11Parts.j2]
                  cases down with
                  | true => rw [if_pos rfl]; exact j3 c hc 45 rfl
                  | false => rw [if_neg Bool.false_ne_true]; exact j3 c hc 43 rfl
                cases upper with
                | true => rw [if_pos rfl]; exact j2 69 (.inr rfl)
                | false => rw [if_neg Bool.false_ne_true]; exact j2 101 (.inl rfl)
            by_cases h6 : (w.size : Int) = 0
            · rw [if_pos h6, show ((f.size : Int) == 0) = false from beq_eq_false_iff_ne.2 (by omega)]; exact J1
            · rw [if_neg h6]; exact J1
end Go.Proofs.YtkijneohhilboaaGreatDoor.Pure
