/- UtfWrong in plain words. -/
import Derived.Test.YtmpdggphhhljhaaDoorUtfSpec12
import Derived.Test.YtmpdggphhhljhaaDoorPCx9
namespace Go.Proofs.YtmpdggphhhljhaaDoor.Pure
set_option linter.unusedSimpArgs false
set_option linter.unusedVariables false
open Go.RowKit Go.Proofs.YtmpdggphhhljhaaDoor.PC Go.Proofs.YtmpdggphhhljhaaDoorW.PrintWords Go.Proofs.YtmpdggphhhljhaaDoor.Aid Go.Proofs.YtmpdggphhhljhaaDoor.BrkFns Go.Proofs.YtmpdggphhhljhaaDoor.UtfSpec
theorem first_of {l r : List Int} (h : l ≠ [] ∧ (l.length = 1 → atI l 0 ≠ 0)) (hf : ¬ (atI l 0 = 0 ∧ atI l 1 = 0)) : ¬ (atI (l ++ r) 0 = 0 ∧ atI (l ++ r) 1 = 0) := by
  match l, h, hf with
  | [], h, _ => exact absurd rfl h.1
  | [a], h, _ => exact fun q => h.2 rfl q.1
  | a :: b :: l, _, hf => exact hf
/-- what the law asks of bytes that are no scalar -/
def tailF (k : Nat) (e : Int) (s : ByteArray) (bad rest : List Int) : Option Bool := if 3 + s.size ≤ 9223372036854775807 then ((utf_Encode.f k e ((⟨#[239, 187, 191]⟩ : ByteArray) ++ s)).bind fun t => (if ([] : List Int).length + t.length < 140737488355328 then ((some (([] : List Int) ++ t : List Int)).bind fun y => (if y.length + bad.length < 140737488355328 then ((some (y ++ bad : List Int)).bind fun z => (if z.length + rest.length < 140737488355328 then ((utf_Decode.f k (z ++ rest)).bind fun bt => (if (bt.1 == 0 && (bt.2.1 == 0 && (bt.2.2.1.toList == ([] : List UInt8)))) = true then (some (bt.2.2.2.1 == 10 && (bt.2.2.2.2 == (t.length : Int)))) else (some false))) else (none))) else (none))) else (none))) else (none)
theorem tail_true (K : Nat) (hK : 4900 ≤ K) (e : Int) (he : 1 ≤ e ∧ e ≤ 5) (s : ByteArray) (hs : s.size ≤ 300) (hc : chk s.data.toList = -1) (bad rest : List Int) (hb : bad ≠ []) (hbl : bad.length ≤ 4) (hB : isB (bad ++ rest)) (hr : rest.length ≤ 50) (h3 : e = 3 → ¬ (atI (bad ++ rest) 0 = 0 ∧ atI (bad ++ rest) 1 = 0)) (h0 : (scal e (bad ++ rest)).2 = 0) : tailF K e s bad rest = some true := by
  have hw := chk_well _ _ (Nat.le_refl _) hc
  have hbom : (⟨#[239, 187, 191]⟩ : ByteArray).data.toList = to8 (Lib.encodeRuneZ 65279) := by decide
  obtain ⟨hw2, henc⟩ := encS_cons e he 65279 (by decide) ⟨#[239, 187, 191]⟩ s hbom hw
  have hz3 : (⟨#[239, 187, 191]⟩ : ByteArray).size = 3 := rfl
  have hT : encL e s.size s.data.toList = encT e s.data.toList := by unfold encT; rw [Lib.size_eq]
  rw [hT] at henc
  have hT4 : (encT e s.data.toList).length ≤ 4 * s.size := by unfold encT; rw [Lib.size_eq]; exact encL_len4 _ _ _
  have hul := encU_len e 65279
  have hBU := encU_isB e 65279
  have hBT : isB (encT e s.data.toList) := encL_isB _ _ _
  have hne : bad ++ rest ≠ [] := by
    intro q; have := congrArg List.length q; rw [List.length_append, List.length_nil] at this
    have := List.length_pos_iff.2 hb; omega
  have hbr : (bad ++ rest).length ≤ 54 := by rw [List.length_append]; omega
  have hdet := marked_det e he (encT e s.data.toList ++ (bad ++ rest)) (by
    intro q3
    by_cases hl : s.data.toList = []
    · rw [hl]; exact h3 q3
    · refine first_of ⟨?_, ?_⟩ ?_
      · rw [encT_cons e hw hl]; intro q
        have := congrArg List.length q; rw [List.length_append, List.length_nil] at this
        have := encU_pos e ((nx s.data.toList).1 : Int); omega
      · rw [encT_cons e hw hl]; intro q
        exfalso
        rw [List.length_append] at q
        have : 2 ≤ (encU e ((nx s.data.toList).1 : Int)).length := by
          unfold encU
          rw [if_neg (by omega), if_pos (.inr q3)]
          split
          · rw [List.length_append, b2_len, b2_len]; omega
          · rw [b2_len]; omega
        omega
      · have := first_ne e s.data.toList.length s.data.toList hc (.inr q3)
        unfold encT
        exact fun q => this ⟨q.1, .inl q.2⟩)
  have hdec := dec_tail e ((encU e 65279).length : Int) he (bad ++ rest) hne h0 s.data.toList.length s.data.toList (encU e 65279) (encU e 65279 ++ (encT e s.data.toList ++ (bad ++ rest))).length [] (Nat.le_refl _) hw (by
    rw [List.length_append, List.length_append]
    show (encT e s.data.toList).length < _
    have := List.length_pos_iff.2 hne
    omega)
  have e2 : encL e s.data.toList.length s.data.toList = encT e s.data.toList := rfl
  rw [e2] at hdec
  unfold tailF
  have hlen : (encU e 65279 ++ encT e s.data.toList).length = (encU e 65279).length + (encT e s.data.toList).length := List.length_append
  rw [if_pos (by omega), Encode_eq K e _ (by rw [ByteArray.size_append, hz3]; omega) (by rw [ByteArray.size_append, hz3]; omega), Option.bind_some, henc, if_pos (by rw [List.length_nil]; omega), Option.bind_some, List.nil_append, if_pos (by omega), Option.bind_some, if_pos (by rw [List.length_append]; omega)]
  have asc : encU e 65279 ++ encT e s.data.toList ++ bad ++ rest = encU e 65279 ++ (encT e s.data.toList ++ (bad ++ rest)) := by rw [List.append_assoc, List.append_assoc]
  have hz : (encU e 65279 ++ (encT e s.data.toList ++ (bad ++ rest))).length ≤ 1400 := by rw [List.length_append, List.length_append]; omega
  rw [asc, Decode_eq _ (hBU.append (hBT.append hB)) (by omega) K (by omega), Option.bind_some, hdet.1, hdet.2, hdec, hlen]
  dsimp only
  rw [if_pos (by rw [Lib.toList_data]; rfl)]
  simp
theorem UtfWrong : targumlaw1_UtfWrong.Pure := by
  intro s l a low hs hl0 hl1 hl2 ha
  have ha := u8_wf ha
  have hBl := isB_wf hl2
  obtain ⟨K, hK⟩ : ∃ K, K = 4999 := ⟨_, rfl⟩
  refine ⟨K + 1, ?_⟩
  unfold targumlaw1_UtfWrong.f
  rw [known1 _ (by omega), Option.bind_some, if_pos rfl]
  rw [Few_eq (K + 1) s 300 (by omega) (by omega) hs, Option.bind_some]
  have J : targumlaw1_UtfWrong.j0 (K + 1) s l a low true = some true := by simp only [targumlaw1_UtfWrong.j0, if_true]
  by_cases hf : (s.size : Int) ≤ 300 ∧ chk s.data.toList = -1
  case neg => rw [decide_eq_false hf, if_neg (by decide)]; exact J
  obtain ⟨h1, h2⟩ := hf
  rw [decide_eq_true ⟨h1, h2⟩, if_pos rfl]
  by_cases hr : (l.length : Int) > 50
  · rw [decide_eq_true hr]; exact J
  rw [decide_eq_false hr]
  obtain ⟨e, hee⟩ : ∃ e, wrap64 (1 + wrap64 (Int.tmod a 5)) = e := ⟨_, rfl⟩
  have he : 1 ≤ e ∧ e ≤ 5 := by
    rw [← hee, Int.tmod_eq_emod_of_nonneg (by omega), wrap_id (x := a % 5) (by omega) (by omega), wrap_id (by omega) (by omega)]; omega
  have T := fun (bad : List Int) (hb : bad ≠ []) (hbl : bad.length ≤ 4) (hB : isB bad) h3 h0 => tail_true K (by omega) e he s (by omega) h2 bad l hb hbl (hB.append hBl) (by omega) h3 h0
  simp only [targumlaw1_UtfWrong.j0]
  rw [if_neg (by decide), hee, Option.bind_some]
  have bB : ∀ b : List Int, b.all (fun x => decide (0 ≤ x ∧ x ≤ 255)) = true → isB b := fun b h => isB_lit h
  by_cases e2 : e = 2
  · rw [if_pos e2, Option.bind_some]
    refine T [220, 1] (by decide) (by decide) (bB _ (by decide)) (by omega) ?_
    subst e2
    show (two (lit 2) (220 :: 1 :: l)).2 = 0
    rw [two_cons, if_neg (by decide), if_neg (by decide)]
  rw [if_neg e2]
  by_cases e3 : e = 3
  · rw [if_pos e3, Option.bind_some]
    refine T [1, 223] (by decide) (by decide) (bB _ (by decide)) (fun _ q => absurd q.1 (by show ¬ ((1 : Int) = 0); decide)) ?_
    subst e3
    show (two (lit 3) (1 :: 223 :: l)).2 = 0
    rw [two_cons, if_neg (by decide), if_neg (by decide)]
  rw [if_neg e3]
  by_cases e4 : e = 4
  · rw [if_pos e4, Option.bind_some]
    cases low
    · rw [if_neg (by decide)]
      refine T [0, 17, 0, 0] (by decide) (by decide) (bB _ (by decide)) (by omega) ?_
      subst e4
      show (four (lit 4) (0 :: 17 :: 0 :: 0 :: l)).2 = 0
      rw [four_cons, if_neg (by decide)]
    · rw [if_pos rfl, Option.bind_some]
      refine T [0, 0, 216, 0] (by decide) (by decide) (bB _ (by decide)) (by omega) ?_
      subst e4
      show (four (lit 4) (0 :: 0 :: 216 :: 0 :: l)).2 = 0
      rw [four_cons, if_neg (by decide)]
  rw [if_neg e4]
  by_cases e5 : e = 5
  · rw [if_pos e5, Option.bind_some]
    cases low
    · rw [if_neg (by decide)]
      refine T [0, 0, 17, 0] (by decide) (by decide) (bB _ (by decide)) (by omega) ?_
      subst e5
      show (four (lit 5) (0 :: 0 :: 17 :: 0 :: l)).2 = 0
      rw [four_cons, if_neg (by decide)]
    · rw [if_pos rfl, Option.bind_some]
      refine T [255, 223, 0, 0] (by decide) (by decide) (bB _ (by decide)) (by omega) ?_
      subst e5
      show (four (lit 5) (255 :: 223 :: 0 :: 0 :: l)).2 = 0
      rw [four_cons, if_neg (by decide)]
  rw [if_neg e5]
  have e1 : e = 1 := by omega
  cases low
  · rw [if_neg (by decide)]
    refine T [255] (by decide) (by decide) (bB _ (by decide)) (by omega) ?_
    subst e1
    show ((nx (UInt8.ofNat 255 :: to8 l)).2 : Int) = 0
    obtain ⟨y1, q1⟩ := nat_ba (UInt8.ofNat 255 :: to8 l) 1
    obtain ⟨y2, q2⟩ := nat_ba (UInt8.ofNat 255 :: to8 l) 2
    obtain ⟨y3, q3⟩ := nat_ba (UInt8.ofNat 255 :: to8 l) 3
    rw [nx_cases _ (by simp) 255 y1 y2 y3 rfl q1 q2 q3, if_neg (by omega), if_neg (by omega), if_neg (by omega), if_neg (by omega)]
    rfl
  · rw [if_pos rfl, Option.bind_some]
    refine T [192, 128] (by decide) (by decide) (bB _ (by decide)) (by omega) ?_
    subst e1
    show ((nx (UInt8.ofNat 192 :: UInt8.ofNat 128 :: to8 l)).2 : Int) = 0
    obtain ⟨y2, q2⟩ := nat_ba (UInt8.ofNat 192 :: UInt8.ofNat 128 :: to8 l) 2
    obtain ⟨y3, q3⟩ := nat_ba (UInt8.ofNat 192 :: UInt8.ofNat 128 :: to8 l) 3
    rw [nx_cases _ (by simp) 192 128 y2 y3 rfl rfl q2 q3, if_neg (by omega), if_pos (by omega), if_neg (by omega)]
    rfl
end Go.Proofs.YtmpdggphhhljhaaDoor.Pure
