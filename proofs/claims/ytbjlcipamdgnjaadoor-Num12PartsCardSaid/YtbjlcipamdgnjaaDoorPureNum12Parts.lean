/- The pure law Num12Parts: digits, a point or none, a power or none are that decimal. No conditions. -/
import Derived.Test.YtbjlcipamdgnjaaDoorNumParts
import Derived.Test.YtbjlcipamdgnjaaDoorPNx17
namespace Go.Proofs.YtbjlcipamdgnjaaDoor.Pure
set_option linter.unusedSimpArgs false
set_option linter.unusedVariables false
open Go.RowKit Go.Lib Go.Proofs.YtbjlcipamdgnjaaDoor.Room Go.Proofs.YtbjlcipamdgnjaaDoor.PN Go.Proofs.YtbjlcipamdgnjaaDoorW.PrintWords Go.Proofs.YtbjlcipamdgnjaaDoor.Aid Go.Proofs.YtbjlcipamdgnjaaDoor.Num Go.Proofs.YtbjlcipamdgnjaaDoor.BigFns Go.Proofs.YtbjlcipamdgnjaaDoor.BigQ Go.Proofs.YtbjlcipamdgnjaaDoor.RefBig Go.Proofs.YtbjlcipamdgnjaaDoor.DecSpec Go.Proofs.YtbjlcipamdgnjaaDoor.NumSpec
theorem parts_j4 (w : ByteArray) (hw : w.size ≤ 30) (neg : Bool) (F t : List UInt8) (dot : Bool) (z : Int) (h : Body (digL w.data.toList) F t dot z) (hF : F.length ≤ 30) (ht : t.length ≤ 35) (hz : (itoa z).length ≤ 100) (k : Nat) (hk : 120000 ≤ k) :
    targumlaw8_Num12Parts.j4 (k + 1) w neg (txt (digL w.data.toList ++ (dotL dot F ++ t))) (txt F) (num z) = some true := by
  have hA : (digL w.data.toList).length = w.size := by rw [digL_length, ← Lib.size_eq]
  have hfl := h.float neg
  have hin := h.noint neg [] (.inl rfl)
  rw [List.append_nil] at hin
  have hno := h.nofloat neg
  have hgood := makeN_good neg (digL w.data.toList ++ F) (h.w.append h.f) (z - F.length)
  have hmk := rMake_yes neg (digL w.data.toList) F z (by omega) (by omega) (by omega) (h.w.append h.f) h.ne k (by omega)
  have hdl : (dotL dot F).length ≤ 31 := by cases dot <;> simp [dotL]; omega
  have hs1 : (signL neg).length ≤ 1 := by unfold signL; cases neg <;> simp
  have hdg := digits8 w (by omega) k (by omega)
  have e95 : ∀ l : List UInt8, signL neg ++ (digL w.data.toList ++ (dotL dot F ++ t)) ++ [95] = signL neg ++ (digL w.data.toList ++ (dotL dot F ++ (t ++ [95]))) := fun _ => by simp only [List.append_assoc]
  have e95 := e95 []
  have len1 : (digL w.data.toList ++ (dotL dot F ++ t)).length ≤ 96 := by rw [List.length_append, List.length_append]; omega
  generalize digL w.data.toList ++ (dotL dot F ++ t) = S at *
  have len2 : (signL neg ++ S).length ≤ 99 := by rw [List.length_append]; omega
  have len3 : (signL neg ++ S ++ [95]).length ≤ 100 := by rw [List.length_append, List.length_singleton]; omega
  rw [← e95] at hno
  obtain ⟨D, hD⟩ : ∃ D, makeN neg (digL w.data.toList ++ F) (z - F.length) = D := ⟨_, rfl⟩
  rw [hD] at hfl hgood hmk
  have e0 : (⟨#[]⟩ : ByteArray) ++ txt S = txt (signL false ++ S) := app_txt [] S
  have e1 : (⟨#[45]⟩ : ByteArray) ++ txt S = txt (signL true ++ S) := app_txt [45] S
  have f1 : num12_Float.f k (txt (signL neg ++ S)) = some D := by rw [Float_eq _ (by omega) k (by omega), hfl]
  have f2 : num12_Int.f k (txt (signL neg ++ S)) = some (⟨#[]⟩, false) := by rw [Int_eq _ (by omega) k (by omega), hin, nil_toList]; rfl
  have f3 : num12_Float.f k (txt (signL neg ++ S ++ [95])) = some zeroD := by rw [Float_eq _ (by omega) k (by omega), hno]
  have f4 : (txt (signL neg ++ S)) ++ (⟨#[95]⟩ : ByteArray) = txt (signL neg ++ S ++ [95]) := app_txt _ [95]
  have f5 : (txt (signL neg ++ S)).size + 1 ≤ 9223372036854775807 := by rw [txt_size]; omega
  simp only [targumlaw8_Num12Parts.j4]
  rw [hdg, Option.bind_some, hmk, Option.bind_some]
  have go : ((num12_Float.f k (txt (signL neg ++ S))).bind fun bt394 => ((num12_Int.f k (txt (signL neg ++ S))).bind fun bt400 => (if (txt (signL neg ++ S)).size + 1 ≤ 9223372036854775807 then ((num12_Float.f k (txt (signL neg ++ S) ++ (⟨#[95]⟩ : ByteArray))).bind fun bt402 => (if bt394.2.2.2.2 = true then (if (bt394.1 == D.1 && (bt394.2.1 == D.2.1 && (bt394.2.2.1.toList == D.2.2.1.toList && (bt394.2.2.2.1.toList == D.2.2.2.1.toList)))) = true then (if bt400.2 = true then (some false) else (some (!bt402.2.2.2.2))) else (some false)) else (some false))) else (none)))) = some true := by
    rw [f1, Option.bind_some, f2, Option.bind_some, if_pos f5, f4, f3, Option.bind_some, if_pos hgood.2.2.1, beq_self_eq_true, beq_self_eq_true, beq_self_eq_true, beq_self_eq_true, if_pos (show (true && (true && (true && true))) = true from rfl), if_neg Bool.false_ne_true]
    rfl
  cases neg with
  | true =>
    rw [if_pos rfl, txt_size, if_pos (by omega), e1]
    exact go
  | false =>
    rw [if_neg Bool.false_ne_true, txt_size, if_pos (by omega), e0]
    exact go
/-- the power behind -/
theorem power_tail (down : Bool) (sg0 : List UInt8) (hs : sg0 = signL down ∨ (down = false ∧ sg0 = [43])) (E : List UInt8) (hE : Digs E) (hne : E ≠ []) : Tail (101 :: (sg0 ++ E)) (if down = true then -(val E : Int) else (val E : Int)) := by
  have ok : okD E = true := (okD_iff _).2 ⟨hE, hne⟩
  have key : sg (sg0 ++ E) = (sg0, E) ∧ (sg0 == [45]) = down := by
    rcases hs with rfl | ⟨rfl, rfl⟩
    · cases down with
      | true => exact ⟨rfl, rfl⟩
      | false => exact ⟨sg_digs hE, rfl⟩
    · exact ⟨rfl, rfl⟩
  have := Tail.pow (sg0 ++ E) (by rw [key.1]; exact ok)
  have e : sv (sg0 ++ E) = if down = true then -(val E : Int) else (val E : Int) := by
    unfold sv
    rw [key.1]
    dsimp only
    rw [key.2]
  rw [e] at this
  exact this
theorem parts_num_len (E : List UInt8) (h : E.length ≤ 30) (hd : Digs E) (down : Bool) : (itoa (if down = true then -(val E : Int) else (val E : Int))).length ≤ 100 := by
  have h1 := dec_len_val E hd
  have h3 := itoa_len (if down = true then -(val E : Int) else (val E : Int))
  have : (if down = true then -(val E : Int) else (val E : Int)).natAbs = val E := by split <;> omega
  rw [this] at h3
  omega
theorem parts_j3 (w e : ByteArray) (hw : w.size ≤ 30) (he : e.size ≤ 30) (he1 : 1 ≤ e.size) (neg down : Bool) (F : List UInt8) (dot : Bool) (hF : F.length ≤ 30) (gF : Digs F) (hne : digL w.data.toList ++ F ≠ []) (hd : dot = false → F = []) (sg0 : List UInt8) (hs : sg0 = [43] ∧ down = false ∨ sg0 = [45] ∧ down = true) (b : Bool) (hb : b = true → down = false) (k : Nat) (hk : 120000 ≤ k) :
    targumlaw8_Num12Parts.j3 (k + 2) w e neg down (txt (digL w.data.toList ++ dotL dot F)) (txt F) (txt sg0) b = some true := by
  have hA : (digL w.data.toList).length = w.size := by rw [digL_length, ← Lib.size_eq]
  have hC : (digL e.data.toList).length = e.size := by rw [digL_length, ← Lib.size_eq]
  have gC := digL_digs e.data.toList
  have nC : digL e.data.toList ≠ [] := fun q => by rw [q, List.length_nil] at hC; omega
  have hdl : (dotL dot F).length ≤ 31 := by cases dot <;> simp [dotL]; omega
  have hnm := rNorm_any down (digL e.data.toList) (by omega) (k + 1) (by omega)
  rw [(okD_iff _).2 ⟨gC, nC⟩, if_pos rfl] at hnm
  have hz := parts_num_len _ (by omega) gC down
  have hsl : sg0.length = 1 := by rcases hs with ⟨e, _⟩ | ⟨e, _⟩ <;> rw [e] <;> rfl
  have fin : ∀ sg1 : List UInt8, sg1.length ≤ 1 → (sg1 = signL down ∨ (down = false ∧ sg1 = [43])) → targumlaw8_Num12Parts.j4 (k + 1) w neg (txt (digL w.data.toList ++ dotL dot F ++ [101] ++ sg1 ++ digL e.data.toList)) (txt F) (num (if down = true then -(val (digL e.data.toList) : Int) else (val (digL e.data.toList) : Int))) = some true := by
    intro sg1 hl h1
    have := parts_j4 w hw neg F (101 :: (sg1 ++ digL e.data.toList)) dot _ ⟨digL_digs _, gF, hne, hd, power_tail down sg1 h1 _ gC nC, .inr (by simp)⟩ hF (by rw [List.length_cons, List.length_append]; omega) hz k hk
    have e : digL w.data.toList ++ dotL dot F ++ [101] ++ sg1 ++ digL e.data.toList = digL w.data.toList ++ (dotL dot F ++ 101 :: (sg1 ++ digL e.data.toList)) := by simp only [List.append_assoc, List.cons_append, List.nil_append]
    rw [e]
    exact this
  have lS : (digL w.data.toList ++ dotL dot F).length ≤ 61 := by rw [List.length_append]; omega
  obtain ⟨S, hS⟩ : ∃ S, digL w.data.toList ++ dotL dot F = S := ⟨_, rfl⟩
  rw [hS] at fin lS ⊢
  have a1 : txt S ++ (⟨#[101]⟩ : ByteArray) = txt (S ++ [101]) := app_txt S [101]
  have a2 : txt (S ++ [101]) ++ (⟨#[]⟩ : ByteArray) = txt (S ++ [101] ++ []) := app_txt _ []
  have l1 : (txt (S ++ [101])).size = S.length + 1 := by rw [txt_size, List.length_append]; rfl
  simp only [targumlaw8_Num12Parts.j3]
  rw [digits8 e (by omega) (k + 1) (by omega)]
  cases b with
  | true =>
    have hdn := hb rfl
    rw [if_pos rfl, txt_size, if_pos (by omega), a1, l1, if_pos (by omega), Option.bind_some, a2, txt_size, txt_size, if_pos (by rw [List.length_append, List.length_append, List.length_singleton, List.length_nil]; omega), app_txt, Option.bind_some, hnm, Option.bind_some]
    exact fin [] (by simp) (.inl (by rw [hdn]; rfl))
  | false =>
    rw [if_neg Bool.false_ne_true, txt_size, if_pos (by omega), a1, l1, txt_size, if_pos (by omega), Option.bind_some, app_txt, txt_size, txt_size, if_pos (by rw [List.length_append, List.length_append, List.length_singleton]; omega), app_txt, Option.bind_some, hnm, Option.bind_some]
    exact fin sg0 (by omega) (by rcases hs with ⟨e, d⟩ | ⟨e, d⟩ <;> rw [e, d] <;> simp [signL])
theorem parts_j1 (w e : ByteArray) (hw : w.size ≤ 30) (he : e.size ≤ 30) (he1 : 1 ≤ e.size) (neg down power bare : Bool) (F : List UInt8) (dot : Bool) (hF : F.length ≤ 30) (gF : Digs F) (hne : digL w.data.toList ++ F ≠ []) (hd : dot = false → F = []) (hp : dot = true ∨ power = true) (k : Nat) (hk : 120000 ≤ k) :
    targumlaw8_Num12Parts.j1 (k + 4) w e neg down power bare (txt (digL w.data.toList ++ dotL dot F)) (txt F) (⟨#[48]⟩ : ByteArray) = some true := by
  simp only [targumlaw8_Num12Parts.j1]
  cases power with
  | false =>
    rw [if_neg Bool.false_ne_true]
    have hdot : dot = true := by rcases hp with h | h; exact h; cases h
    have := parts_j4 w hw neg F [] dot 0 ⟨digL_digs _, gF, hne, hd, .no, .inl hdot⟩ hF (by simp) (by rw [itoa_zero]; simp) (k + 2) (by omega)
    rw [List.append_nil] at this
    rw [num_zero]
    exact this
  | true =>
    rw [if_pos rfl]
    have j3 := fun sg0 hs b hb => parts_j3 w e hw he he1 neg down F dot hF gF hne hd sg0 hs b hb k hk
    cases down with
    | true =>
      rw [if_pos rfl]
      show targumlaw8_Num12Parts.j2 (k + 2 + 1) _ _ _ _ _ _ _ _ = _
      simp only [targumlaw8_Num12Parts.j2]
      cases bare with
      | true => rw [if_pos rfl]; exact j3 [45] (.inr ⟨rfl, rfl⟩) false (fun h => by cases h)
      | false => rw [if_neg Bool.false_ne_true]; exact j3 [45] (.inr ⟨rfl, rfl⟩) false (fun h => by cases h)
    | false =>
      rw [if_neg Bool.false_ne_true]
      show targumlaw8_Num12Parts.j2 (k + 2 + 1) _ _ _ _ _ _ _ _ = _
      simp only [targumlaw8_Num12Parts.j2]
      cases bare with
      | true => rw [if_pos rfl]; exact j3 [43] (.inl ⟨rfl, rfl⟩) true (fun _ => rfl)
      | false => rw [if_neg Bool.false_ne_true]; exact j3 [43] (.inl ⟨rfl, rfl⟩) false (fun h => by cases h)
theorem parts_j0 (w f e : ByteArray) (hw : w.size ≤ 30) (hf : f.size ≤ 30) (he : e.size ≤ 30) (he1 : 1 ≤ e.size) (neg down point power bare : Bool) (h1 : point = true ∨ 1 ≤ w.size) (h2 : 1 ≤ w.size + f.size) (h3 : point = true ∨ power = true) (k : Nat) (hk : 120000 ≤ k) :
    targumlaw8_Num12Parts.j0 (k + 5) w f e neg down point power bare false = some true := by
  have hA : (digL w.data.toList).length = w.size := by rw [digL_length, ← Lib.size_eq]
  have hB : (digL f.data.toList).length = f.size := by rw [digL_length, ← Lib.size_eq]
  have gB := digL_digs f.data.toList
  have dw := digits8 w (by omega) (k + 4) (by omega)
  have df := digits8 f (by omega) (k + 4) (by omega)
  simp only [targumlaw8_Num12Parts.j0, Bool.false_eq_true, if_false]
  rw [dw, Option.bind_some]
  cases point with
  | true =>
    have hne : digL w.data.toList ++ digL f.data.toList ≠ [] := fun q => by
      have := congrArg List.length q
      rw [List.length_append, List.length_nil] at this; omega
    have := parts_j1 w e hw he he1 neg down power bare (digL f.data.toList) true (by omega) gB hne (fun h => by cases h) (.inl rfl) k hk
    have a1 : txt (digL w.data.toList) ++ (⟨#[46]⟩ : ByteArray) = txt (digL w.data.toList ++ [46]) := app_txt _ [46]
    have a2 : digL w.data.toList ++ [46] ++ digL f.data.toList = digL w.data.toList ++ dotL true (digL f.data.toList) := by simp [dotL]
    rw [if_pos rfl, txt_size, if_pos (by omega), df, Option.bind_some, a1, txt_size, txt_size, if_pos (by rw [List.length_append, List.length_singleton]; omega), Option.bind_some, app_txt, a2]
    exact this
  | false =>
    have hw1 : 1 ≤ w.size := by rcases h1 with h | h; cases h; exact h
    have hpw : power = true := by rcases h3 with h | h; cases h; exact h
    have hne : digL w.data.toList ++ [] ≠ [] := fun q => by
      have := congrArg List.length q
      rw [List.length_append, List.length_nil] at this; omega
    have := parts_j1 w e hw he he1 neg down power bare [] false (by simp) (fun x hx => (List.not_mem_nil hx).elim) hne (fun _ => rfl) (.inr hpw) k hk
    rw [show dotL false [] = [] from rfl, List.append_nil] at this
    rw [if_neg Bool.false_ne_true]
    exact this
theorem Num12Parts : targumlaw8_Num12Parts.Pure := by
  intro w f e neg down point power bare hw0 hf0 he0
  obtain ⟨K, hK⟩ : ∃ K, K = 120000 := ⟨_, rfl⟩
  refine ⟨K + 5, ?_⟩
  have hk := known8 (K + 5) (by omega)
  unfold targumlaw8_Num12Parts.f
  rw [hk, Option.bind_some, if_pos rfl]
  have J1 : targumlaw8_Num12Parts.j0 (K + 5) w f e neg down point power bare true = some true := by
    show targumlaw8_Num12Parts.j0 (K + 4 + 1) w f e neg down point power bare true = some true
    simp only [targumlaw8_Num12Parts.j0, if_true]
  by_cases c1 : (w.size : Int) > 30
  · rw [if_pos c1]; exact J1
  · rw [if_neg c1]
    by_cases c2 : (f.size : Int) > 30
    · rw [if_pos c2]; exact J1
    · rw [if_neg c2]
      by_cases c3 : (e.size : Int) < 1
      · rw [if_pos c3]; exact J1
      · rw [if_neg c3]
        by_cases c4 : (e.size : Int) > 30
        · rw [if_pos c4]; exact J1
        · rw [if_neg c4, wrap_id (by omega) (by omega)]
          have J0 := fun h1 h2 h3 => parts_j0 w f e (by omega) (by omega) (by omega) (by omega) neg down point power bare h1 h2 h3 K (by omega)
          cases hp : point with
          | true =>
            rw [hp] at J1 J0
            rw [if_pos rfl]
            by_cases c5 : (w.size : Int) + (f.size : Int) = 0
            · rw [if_pos c5]; exact J1
            · rw [if_neg c5]; exact J0 (.inl rfl) (by omega) (.inl rfl)
          | false =>
            rw [hp] at J1 J0
            rw [if_neg Bool.false_ne_true]
            by_cases c5 : (w.size : Int) = 0
            · rw [if_pos c5]; exact J1
            · rw [if_neg c5]
              by_cases c6 : (w.size : Int) + (f.size : Int) = 0
              · rw [if_pos c6]; exact J1
              · rw [if_neg c6]
                cases hq : power with
                | false => rw [hq] at J1; exact J1
                | true => rw [hq] at J0; exact J0 (.inr (by omega)) (by omega) (.inr rfl)
end Go.Proofs.YtbjlcipamdgnjaaDoor.Pure
