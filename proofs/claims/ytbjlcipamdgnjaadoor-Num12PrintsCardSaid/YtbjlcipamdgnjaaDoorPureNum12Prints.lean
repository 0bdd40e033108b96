/- The pure law Num12Prints: what the reference prints of a decimal is no whole number, and is that decimal. No conditions. -/
import Derived.Test.YtbjlcipamdgnjaaDoorNumParts
import Derived.Test.YtbjlcipamdgnjaaDoorPNx15
namespace Go.Proofs.YtbjlcipamdgnjaaDoor.Pure
set_option linter.unusedSimpArgs false
set_option linter.unusedVariables false
open Go.RowKit Go.Lib Go.Proofs.YtbjlcipamdgnjaaDoor.Room Go.Proofs.YtbjlcipamdgnjaaDoor.PN Go.Proofs.YtbjlcipamdgnjaaDoorW.PrintWords Go.Proofs.YtbjlcipamdgnjaaDoor.Aid Go.Proofs.YtbjlcipamdgnjaaDoor.Num Go.Proofs.YtbjlcipamdgnjaaDoor.BigFns Go.Proofs.YtbjlcipamdgnjaaDoor.BigQ Go.Proofs.YtbjlcipamdgnjaaDoor.RefBig Go.Proofs.YtbjlcipamdgnjaaDoor.DecSpec Go.Proofs.YtbjlcipamdgnjaaDoor.NumSpec
theorem num0 : num 0 = txt [48] := num_zero.symm
theorem made (neg : Bool) (l : List UInt8) (hd : Digs l) (hl : l.length ≤ 60) (x : Int) (hx0 : -3000000000 ≤ x) (hx1 : x ≤ 3000000000) : ∃ d z, makeN neg l x = (0, neg, txt d, num z, true) ∧ makeN neg d z = (0, neg, txt d, num z, true) ∧ Digs d ∧ d ≠ [] ∧ goodD 0 neg d (itoa z) ∧ d.length ≤ 60 ∧ (itoa z).length ≤ 13 := by
  have hi : ∀ z : Int, -4000000000 ≤ z → z ≤ 4000000000 → (itoa z).length ≤ 13 := fun z h0 h1 => by
    have := itoa_len z
    have h2 : (decDigits z.natAbs).length ≤ 11 := by rw [decDigits_length]; exact nDigits_le 10 _ (by omega)
    omega
  rcases split3 l with ⟨n, rfl⟩ | ⟨a, c, b, rfl, h1, h2, h3⟩
  · refine ⟨[48], 0, by rw [makeN_noughts, num0], by rw [num0]; exact makeN_noughts neg 1 0, zs_digs 1, by simp, .inl ⟨rfl, rfl, by rw [itoa_zero]⟩, by simp, hi 0 (by omega) (by omega)⟩
  · have hc : Digs c := fun y hy => hd y (by simp [hy])
    rw [List.length_append, List.length_append, zs_length, zs_length] at hl
    have e := makeN_core neg 0 0 h1 h2 h3 (x + b)
    rw [show zs 0 ++ c ++ zs 0 = c by show [] ++ c ++ [] = c; rw [List.append_nil, List.nil_append], show x + (b : Int) + ((0 : Nat) : Int) = x + b by omega] at e
    exact ⟨c, x + b, makeN_core neg a b h1 h2 h3 x, e, hc, h3, .inr (.inl ⟨rfl, ⟨hc, h3, h1, h2⟩, num_isNum _⟩), by omega, hi _ (by omega) (by omega)⟩
theorem inf_print (neg : Bool) : float12 (printL 1 neg [] []) = (1, neg, txt [], txt [], true) := by cases neg <;> decide +kernel
theorem nan_float : float12 [46, 110, 97, 110] = (2, false, txt [], txt [], true) := by decide +kernel
theorem prints_j0 (w f : ByteArray) (neg : Bool) (E : Int) (h1 : 1 ≤ w.size + f.size) (hw : w.size ≤ 30) (hf : f.size ≤ 30) (hE0 : -2147483648 ≤ E) (hE1 : E ≤ 2147483647) (k : Nat) (hk : 120000 ≤ k) :
    targumlaw8_Num12Prints.j0 (k + 1) w f neg E false = some true := by
  have hA : (digL w.data.toList).length = w.size := by rw [digL_length, ← Lib.size_eq]
  have hB : (digL f.data.toList).length = f.size := by rw [digL_length, ← Lib.size_eq]
  have gA := digL_digs w.data.toList
  have gB := digL_digs f.data.toList
  have hEl : (decDigits E.natAbs).length ≤ 13 := by rw [decDigits_length]; exact nDigits_le 12 _ (by omega)
  have il := itoa_len E
  simp only [targumlaw8_Num12Prints.j0, Bool.false_eq_true, if_false]
  rw [digits8 w (by omega) _ (by omega), digits8 f (by omega) _ (by omega)]
  obtain ⟨A, hAe⟩ : ∃ A, digL w.data.toList = A := ⟨_, rfl⟩
  obtain ⟨B, hBe⟩ : ∃ B, digL f.data.toList = B := ⟨_, rfl⟩
  rw [hAe] at hA gA ⊢
  rw [hBe] at hB gB ⊢
  have gAB : Digs (A ++ B) := gA.append gB
  have lAB : (A ++ B).length = w.size + f.size := by rw [List.length_append, hA, hB]
  have nAB : A ++ B ≠ [] := fun e => by
    rw [e, List.length_nil] at lAB
    omega
  simp only [Option.bind_some, wrap_id (x := E) (by omega) (by omega)]
  have ha := rAdd_eq 0 E (by omega) (by omega) (by rw [show (0 : Int).natAbs = 0 from rfl, dec_zero]; simp) k (by rw [show (0 : Int).natAbs = 0 from rfl, dec_zero]; simp only [List.length_singleton]; omega)
  rw [Int.zero_add, num0] at ha
  rw [show (⟨#[48]⟩ : ByteArray) = txt [48] from rfl]
  rw [ha, Option.bind_some, rMake_yes neg A B E (by omega) (by omega) (by omega) gAB nAB k (by omega), Option.bind_some]
  obtain ⟨d, z, e1, e2, e3, e4, e5, e6, e7⟩ := made neg (A ++ B) gAB (by omega) (E - (B.length : Int)) (by omega) (by omega)
  rw [e1]
  have hp := (rPrint_any 0 neg d (itoa z) (by omega) (by omega) k (by omega) (by omega)).1 e5
  have hp : targumref4_Print.f k 0 neg (txt d) (num z) = some (txt (printL 0 neg d (itoa z))) := hp
  have hi := (rPrint_any 1 neg [] [] (by simp) (by simp) k (by simp; omega) (by simp; omega)).1 (.inr (.inr (.inl ⟨rfl, rfl, rfl⟩)))
  have hpl : printL 0 neg d (itoa z) = signL neg ++ (d ++ (dotL true [] ++ (101 :: (plusL (itoa z) ++ itoa z)))) := by
    unfold printL dotL
    rw [if_neg (by decide), if_neg (by decide), if_pos rfl]
    simp only [List.append_assoc, List.cons_append, List.nil_append]
  have body : Body d [] (101 :: (plusL (itoa z) ++ itoa z)) true z := ⟨e3, fun x hx => (List.not_mem_nil hx).elim, by rw [List.append_nil]; exact e4, fun h => (by cases h), Tail.printed z, .inl rfl⟩
  have hfl := body.float neg
  have hin := body.noint neg [] (.inl rfl)
  rw [List.append_nil] at hin hfl
  rw [← hpl] at hfl hin
  rw [show z - ((([] : List UInt8).length : Nat) : Int) = z by simp, e2] at hfl
  have hs2 : (signL neg).length ≤ 1 := by unfold signL; cases neg <;> simp
  have hs3 : (plusL (itoa z)).length ≤ 1 := by unfold plusL; split <;> simp
  have hlen : (printL 0 neg d (itoa z)).length ≤ 100 := by
    have hdl : (dotL true ([] : List UInt8)).length = 1 := rfl
    rw [hpl, List.length_append, List.length_append, List.length_append, List.length_cons, List.length_append, hdl]; omega
  have hlen1 : (printL 1 neg [] []).length ≤ 100 := by cases neg <;> decide
  dsimp only
  rw [hp, Option.bind_some, Float_eq _ hlen k (by omega), Option.bind_some, Int_eq _ hlen k (by omega), Option.bind_some, show (⟨#[]⟩ : ByteArray) = txt [] from rfl, hi, Option.bind_some, Float_eq _ hlen1 k (by omega), Option.bind_some, show (⟨#[46, 110, 97, 110]⟩ : ByteArray) = txt [46, 110, 97, 110] from rfl, Float_eq _ (by decide) k (by omega), Option.bind_some, hfl, hin, inf_print, nan_float]
  dsimp only
  rw [if_pos rfl, if_pos rfl, beq_self_eq_true, beq_self_eq_true, beq_self_eq_true, beq_self_eq_true, if_pos (show (true && (true && (true && true))) = true from rfl), show (txt []).toList = ([] : List UInt8) from nil_toList, nil_toList]
  rw [if_neg (show ¬ (([] : List UInt8) != []) = true by decide), if_pos rfl, if_pos (show ((1 : Int) == 1 && (true && (([] : List UInt8) == [] && ([] : List UInt8) == []))) = true by decide), if_pos rfl]
  rfl
theorem Num12Prints : targumlaw8_Num12Prints.Pure := by
  intro w f neg e hw0 hf0 he
  have e1 : -2147483648 ≤ e ∧ e ≤ 2147483647 := by
    have : (decide (IntKind.i32.min ≤ e) && decide (e ≤ IntKind.i32.max)) = true := he
    rw [Bool.and_eq_true, decide_eq_true_iff, decide_eq_true_iff] at this
    have p : IntKind.i32.min = -2147483648 := rfl
    have q : IntKind.i32.max = 2147483647 := rfl
    omega
  obtain ⟨K, hK⟩ : ∃ K, K = 120000 := ⟨_, rfl⟩
  refine ⟨K + 1, ?_⟩
  have hk := known8 (K + 1) (by omega)
  unfold targumlaw8_Num12Prints.f
  rw [hk, Option.bind_some, if_pos rfl]
  have J1 : targumlaw8_Num12Prints.j0 (K + 1) w f neg e true = some true := by simp only [targumlaw8_Num12Prints.j0, if_true]
  by_cases c1 : (wrap64 ((w.size : Int) + (f.size : Int))) < 1
  · rw [if_pos c1]; exact J1
  · rw [if_neg c1]
    by_cases c2 : (w.size : Int) > 30
    · rw [if_pos c2]; exact J1
    · rw [if_neg c2]
      by_cases c3 : (f.size : Int) > 30
      · rw [decide_eq_true c3]; exact J1
      · rw [decide_eq_false c3]
        rw [wrap_id (by omega) (by omega)] at c1
        exact prints_j0 w f neg e (by omega) (by omega) (by omega) e1.1 e1.2 K (by omega)
end Go.Proofs.YtbjlcipamdgnjaaDoor.Pure
