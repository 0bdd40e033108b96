/- The reference's decimal of the new schema computes float12. No conditions but sizes. -/
import Derived.Test.YtbjlcipamdgnjaaDoorNumSpec3
namespace Go.Proofs.YtbjlcipamdgnjaaDoor.NumSpec
set_option linter.unusedSimpArgs false
set_option linter.unusedVariables false
open Go.RowKit Go.Lib Go.Proofs.YtbjlcipamdgnjaaDoor.Room Go.Proofs.YtbjlcipamdgnjaaDoor.PN Go.Proofs.YtbjlcipamdgnjaaDoorW.PrintWords Go.Proofs.YtbjlcipamdgnjaaDoor.Aid Go.Proofs.YtbjlcipamdgnjaaDoor.Num Go.Proofs.YtbjlcipamdgnjaaDoor.BigFns Go.Proofs.YtbjlcipamdgnjaaDoor.BigQ Go.Proofs.YtbjlcipamdgnjaaDoor.RefBig Go.Proofs.YtbjlcipamdgnjaaDoor.DecSpec

theorem tw_get {l : List UInt8} {i : Nat} (h : i < (l.takeWhile isD).length) : ∃ h' : i < l.length, isD l[i] = true := by
  have hl := tw_le l
  refine ⟨by omega, ?_⟩
  have e : l[i]'(by omega) = (l.takeWhile isD)[i] := by
    have : (l.take (l.takeWhile isD).length)[i]? = l[i]? := List.getElem?_take_of_lt h
    rw [take_tw, List.getElem?_eq_getElem h, List.getElem?_eq_getElem (by omega)] at this
    exact (Option.some.inj this).symm
  rw [e]
  exact List.all_eq_true.1 (List.all_takeWhile (p := isD) (l := l)) _ (List.getElem_mem h)
theorem tw_stop {l : List UInt8} (h : (l.takeWhile isD).length < l.length) : isD (l[(l.takeWhile isD).length]) = false := by
  have hd := drop_tw l
  rw [List.drop_eq_getElem_cons h] at hd
  have := List.head_dropWhile_not (p := isD) (l := l) (by rw [← hd]; exact List.cons_ne_nil _ _)
  simp only [← hd, List.head_cons] at this
  exact this
/-- the digits from place p on: a digit at each place, none behind them -/
theorem scan_get {L : List UInt8} {p i n : Nat} (hn : n = p + ((L.drop p).takeWhile isD).length) (h0 : p ≤ i) (h1 : i < n) : ∃ h : i < L.length, isD L[i] = true := by
  obtain ⟨h', e⟩ := tw_get (l := L.drop p) (i := i - p) (by omega)
  rw [List.length_drop] at h'
  refine ⟨by omega, ?_⟩
  rw [List.getElem_drop] at e
  have q : p + (i - p) = i := by omega
  simp only [q] at e
  exact e
theorem scan_stop {L : List UInt8} {p n : Nat} (hp : p ≤ L.length) (hn : n = p + ((L.drop p).takeWhile isD).length) (h : n < L.length) : isD L[n] = false := by
  have := tw_stop (l := L.drop p) (by rw [List.length_drop]; omega)
  rw [List.getElem_drop] at this
  simp only [← hn] at this
  exact this
theorem scan_le {L : List UInt8} {p n : Nat} (hp : p ≤ L.length) (hn : n = p + ((L.drop p).takeWhile isD).length) : n ≤ L.length := by
  have := tw_le (L.drop p)
  rw [List.length_drop] at this
  omega
theorem isdig_at {L : List UInt8} {i : Nat} (h : i < L.length) : targumref4_IsDigit.f (bt (txt L) (i : Int)) = some (isD L[i]) := by
  rw [bt_at_ h, IsDigit_eq]; rfl
theorem scan0 (L : List UInt8) (hs : L.length ≤ 1000000) (neg : Bool) (R : D5) (M n : Nat) (hn : n = 0 + ((L.drop 0).takeWhile isD).length) (hR : ∀ k, M ≤ k → targumref6_Float12.j1 k (txt L) neg (n : Int) = some R) :
    ∀ (m k i : Nat), i + m = n → M + m + 1 ≤ k → targumref6_Float12.l0 k (txt L) neg (i : Int) = some R
  | 0, k, i, hi, hk => by
    obtain ⟨k, rfl⟩ : ∃ j, k = j + 1 := ⟨k - 1, by omega⟩
    have e : i = n := by omega
    simp only [targumref6_Float12.l0]
    rw [txt_size, e]
    by_cases h : n < L.length
    · rw [if_pos (by omega), if_pos (by omega), isdig_at h, scan_stop (Nat.zero_le _) hn h]
      simp only [Option.bind_some]
      rw [if_neg Bool.false_ne_true, hR k (by omega)]
    · rw [if_neg (by omega), hR k (by omega)]
  | m + 1, k, i, hi, hk => by
    obtain ⟨k, rfl⟩ : ∃ j, k = j + 1 := ⟨k - 1, by omega⟩
    obtain ⟨h, e⟩ := scan_get hn (Nat.zero_le i) (by omega)
    simp only [targumref6_Float12.l0]
    rw [txt_size, if_pos (by omega), if_pos (by omega), isdig_at h, e]
    simp only [Option.bind_some]
    rw [if_pos trivial, wrap_id (by omega) (by omega)]
    exact scan0 L hs neg R M n hn hR m k (i + 1) (by omega) (by omega)
theorem scan1 (L : List UInt8) (hs : L.length ≤ 1000000) (neg : Bool) (w : ByteArray) (R : D5) (M p n : Nat) (hp : p + 1 ≤ L.length) (hn : n = p + 1 + ((L.drop (p + 1)).takeWhile isD).length)
    (hR : ∀ k, M ≤ k → targumref6_Float12.j4 k (txt L) neg (n : Int) w (txt ((L.drop (p + 1)).takeWhile isD)) = some R) :
    ∀ (m k i : Nat), p + 1 ≤ i → i + m = n → M + m + 1 ≤ k → targumref6_Float12.l1 k (txt L) neg (p : Int) w (i : Int) = some R
  | 0, k, i, h0, hi, hk => by
    obtain ⟨k, rfl⟩ : ∃ j, k = j + 1 := ⟨k - 1, by omega⟩
    have e : i = n := by omega
    have hnl := scan_le hp hn
    have hx : (txt L).extract ((p : Int) + 1).toNat (n : Int).toNat = txt ((L.drop (p + 1)).takeWhile isD) := by
      apply ext_list
      rw [Lib.extract_data, txt_list, txt_list, show ((p : Int) + 1).toNat = p + 1 by omega, Int.toNat_natCast, show n - (p + 1) = ((L.drop (p + 1)).takeWhile isD).length by omega, take_tw]
    have hE : (if 0 ≤ (wrap64 ((p : Int) + 1)) then (if (wrap64 ((p : Int) + 1)) ≤ (n : Int) then (if (n : Int) ≤ ((txt L).size : Int) then (targumref6_Float12.j4 k (txt L) neg (n : Int) w ((txt L).extract ((wrap64 ((p : Int) + 1)) : Int).toNat ((n : Int) : Int).toNat)) else (none)) else (none)) else (none)) = some R := by
      rw [wrap_id (x := (p : Int) + 1) (by omega) (by omega), txt_size, if_pos (by omega), if_pos (by omega), if_pos (by omega), hx, hR k (by omega)]
    simp only [targumref6_Float12.l1]
    rw [e, hE, txt_size]
    by_cases h : n < L.length
    · rw [if_pos (by omega), if_pos (by omega), isdig_at h, scan_stop hp hn h]
      simp only [Option.bind_some]
      rw [if_neg Bool.false_ne_true]
    · rw [if_neg (by omega)]
  | m + 1, k, i, h0, hi, hk => by
    obtain ⟨k, rfl⟩ : ∃ j, k = j + 1 := ⟨k - 1, by omega⟩
    obtain ⟨h, e⟩ := scan_get hn h0 (by omega)
    simp only [targumref6_Float12.l1]
    rw [txt_size, if_pos (show (i : Int) < (L.length : Int) by omega), if_pos (show (0 : Int) ≤ (i : Int) by omega), isdig_at h, e]
    simp only [Option.bind_some]
    rw [if_pos trivial, wrap_id (x := (i : Int) + 1) (by omega) (by omega)]
    exact scan1 L hs neg w R M p n hp hn hR m k (i + 1) (by omega) (by omega) (by omega)
theorem rj4_eq (L : List UInt8) (neg : Bool) (w f t : List UInt8) (n : Nat) (hL : L.length ≤ 1000) (hn : n ≤ L.length) (ht : L.drop n = t) (hw : w.length ≤ 1000) (hf : f.length ≤ 1000) (hd : Digs (w ++ f)) (k : Nat) (hk : 100001 ≤ k) :
    targumref6_Float12.j4 k (txt L) neg (n : Int) (txt w) (txt f) = some (fin neg w f t) := by
  obtain ⟨k, rfl⟩ : ∃ j, k = j + 1 := ⟨k - 1, by omega⟩
  have hl : t.length ≤ 1000 := by rw [← ht, List.length_drop]; omega
  simp only [targumref6_Float12.j4]
  rw [txt_size, if_pos (by omega), if_pos (by omega), ← txt_size L, extract_drop, Int.toNat_natCast, ht, rtail_eq t hl k (by omega)]
  simp only [Option.bind_some]
  unfold fin
  cases h : expo t with
  | none => rfl
  | some z =>
    have hz : (itoa z).length ≤ 2000 := by
      cases t with
      | nil => rw [← Option.some.inj h, itoa_zero]; simp
      | cons x r =>
        have h' : (if (x = 101 ∨ x = 69) ∧ okD (sg r).2 = true then some (sv r) else none) = some z := h
        split at h'
        · rename_i q
          have := sv_len r ((okD_iff _).1 q.2).1
          rw [← Option.some.inj h']
          rw [List.length_cons] at hl
          omega
        · cases h'
    dsimp only
    rw [if_pos rfl, eta5]
    by_cases hne : w ++ f = []
    · rw [if_pos hne]
      exact rMake_no neg w f (itoa z) (by omega) (by omega) (by omega) (fun q => q.2.1 hne) k (by omega)
    · rw [if_neg hne, rMake_yes neg w f z (by omega) (by omega) (by omega) hd hne k (by omega)]
theorem rflo_eq (L : List UInt8) (neg : Bool) (hL : L.length ≤ 1000) (k : Nat) (hk : 110000 ≤ k) : targumref6_Float12.l0 k (txt L) neg 0 = some (flo neg L) := by
  have hle := tw_le L
  have dw := tw_digs L
  have hn : (L.takeWhile isD).length = 0 + ((L.drop 0).takeWhile isD).length := by rw [List.drop_zero, Nat.zero_add]
  refine scan0 L (by omega) neg _ 103000 (L.takeWhile isD).length hn (fun k hk => ?_) (L.takeWhile isD).length k 0 (by omega) (by omega)
  obtain ⟨k, rfl⟩ : ∃ j, k = j + 2 := ⟨k - 2, by omega⟩
  have hx : (txt L).extract 0 ((L.takeWhile isD).length : Int).toNat = txt (L.takeWhile isD) := by
    apply ext_list
    rw [extract_take, txt_list, txt_list, Int.toNat_natCast, take_tw]
  have j2f : ∀ b, b = false → (frac (L.dropWhile isD)) = ([], L.dropWhile isD) → targumref6_Float12.j2 (k + 1) (txt L) neg ((L.takeWhile isD).length : Int) (txt (L.takeWhile isD)) (⟨#[]⟩ : ByteArray) b = some (flo neg L) := fun b hb hf => by
    simp only [targumref6_Float12.j2, hb, Bool.false_eq_true, if_false]
    have := rj4_eq L neg (L.takeWhile isD) [] (L.dropWhile isD) (L.takeWhile isD).length hL hle (drop_tw L) (by omega) (by simp) (by rw [List.append_nil]; exact dw) k (by omega)
    unfold flo
    rw [hf]
    exact this
  simp only [targumref6_Float12.j1]
  rw [txt_size, if_pos (by omega), if_pos (by omega), hx]
  by_cases h : (L.takeWhile isD).length < L.length
  · rw [if_pos (by omega), bt_at_ h]
    have hd := drop_tw L
    rw [List.drop_eq_getElem_cons h] at hd
    by_cases h46 : L[(L.takeWhile isD).length] = 46
    · have hb : (((L[(L.takeWhile isD).length]).toNat : Int) == 46) = true := by rw [h46]; rfl
      simp only [targumref6_Float12.j2, hb, if_true]
      have hf : frac (L.dropWhile isD) = ((L.drop ((L.takeWhile isD).length + 1)).takeWhile isD, (L.drop ((L.takeWhile isD).length + 1)).dropWhile isD) := by
        rw [← hd]; unfold frac; dsimp only; rw [if_pos h46]
      have hq := tw_le (L.drop ((L.takeWhile isD).length + 1))
      have hql : (L.drop ((L.takeWhile isD).length + 1)).length = L.length - ((L.takeWhile isD).length + 1) := List.length_drop
      rw [wrap_id (by omega) (by omega)]
      refine scan1 L (by omega) neg (txt (L.takeWhile isD)) _ 100001 (L.takeWhile isD).length _ (by omega) rfl (fun k hk => ?_) ((L.drop ((L.takeWhile isD).length + 1)).takeWhile isD).length k ((L.takeWhile isD).length + 1) (by omega) (by omega) (by omega)
      have := rj4_eq L neg (L.takeWhile isD) ((L.drop ((L.takeWhile isD).length + 1)).takeWhile isD) ((L.drop ((L.takeWhile isD).length + 1)).dropWhile isD) ((L.takeWhile isD).length + 1 + ((L.drop ((L.takeWhile isD).length + 1)).takeWhile isD).length) hL (by omega)
        (by rw [← List.drop_drop, drop_tw]) (by omega) (by omega) (dw.append (tw_digs _)) k hk
      unfold flo
      rw [hf]
      exact this
    · have hb : (((L[(L.takeWhile isD).length]).toNat : Int) == 46) = false := beq_eq_false_iff_ne.2 (nez (n := 46) (by omega) h46)
      exact j2f _ hb (by rw [← hd]; unfold frac; dsimp only; rw [if_neg h46])
  · rw [if_neg (by omega)]
    have hd : L.dropWhile isD = [] := by rw [← drop_tw, List.drop_eq_nil_of_le (by omega)]
    exact j2f _ rfl (by rw [hd]; rfl)
/-- a word is no whole number -/
theorem word_int (l : List UInt8) (h : infW (sg l).2 = true ∨ nanW (sg l).2 = true) : int12 l = ⟨#[]⟩ := by
  have hr : ∃ r, (sg l).2 = 46 :: r := by
    unfold infW nanW at h
    simp only [Bool.or_eq_true, beq_iff_eq] at h
    rcases h with ((h | h) | h) | ((h | h) | h) <;> exact ⟨_, h⟩
  obtain ⟨r, hr⟩ := hr
  have hok : okD (sg l).2 = false := by rw [hr]; rfl
  have ha := sg_app l
  have hs : (sg l).1 = [] ∨ (sg l).1 = [43] ∨ (sg l).1 = [45] := by
    cases l with
    | nil => exact .inl rfl
    | cons x r =>
      unfold sg; dsimp only
      by_cases h1 : x = 43
      · rw [if_pos (.inl h1), h1]; exact .inr (.inl rfl)
      · by_cases h2 : x = 45
        · rw [if_pos (.inr h2), h2]; exact .inr (.inr rfl)
        · rw [if_neg (by simp [h1, h2])]; exact .inl rfl
  unfold int12 normS
  rw [hok, if_neg Bool.false_ne_true]
  have ht : ∀ y, l.take 2 ≠ [48, y] := fun y q => by
    rw [← ha, hr] at q
    rcases hs with e | e | e <;> rw [e] at q <;> simp at q
  rw [if_neg (ht _), if_neg (ht _)]
theorem rFloat_eq (l : List UInt8) (hs : l.length ≤ 100) (k : Nat) (hk : 120000 ≤ k) : targumref6_Float12.f k (txt l) = some (float12 l) := by
  have hsg := sg_len l
  have ha := congrArg List.length (sg_app l)
  rw [List.length_append] at ha
  unfold targumref6_Float12.f
  rw [rInt_eq l hs k (by omega)]
  simp only [Option.bind_some]
  have hwd : (wordD (sg l).1 (sg l).2).2.2.2.2 = true → infW (sg l).2 = true ∨ nanW (sg l).2 = true := fun q => by
    unfold wordD at q
    cases h1 : infW (sg l).2 with
    | true => exact .inl rfl
    | false =>
      cases h2 : nanW (sg l).2 with
      | true => exact .inr rfl
      | false => rw [h1, h2] at q; exact Bool.noConfusion (show false = true from q)
  unfold float12
  by_cases h2 : (int12 l).toList = []
  · rw [show ((int12 l).toList != ([] : List UInt8)) = false from by rw [h2]; rfl, if_neg Bool.false_ne_true, rsign_eq]
    simp only [Option.bind_some]
    rw [rodd_eq _ _ _ k (by omega)]
    simp only [Option.bind_some]
    have hz : decide (((txt (sg l).2).size : Int) < ((txt l).size : Int)) = !((sg l).1 == []) := by
      rw [txt_size, txt_size]
      cases h : (sg l).1 with
      | nil => rw [h] at ha; rw [decide_eq_false (by simp at ha; omega)]; rfl
      | cons x r => rw [h, List.length_cons] at ha; rw [decide_eq_true (by omega)]; rfl
    have hw : (if infW (sg l).2 = true then ((1, ((sg l).1 == [45]), ⟨#[]⟩, ⟨#[]⟩, true) : D5) else if nanW (sg l).2 = true then (if decide (((txt (sg l).2).size : Int) < ((txt l).size : Int)) = true then zeroD else (2, false, ⟨#[]⟩, ⟨#[]⟩, true)) else zeroD).2.2.2.2 = (wordD (sg l).1 (sg l).2).2.2.2.2 ∧
        ((wordD (sg l).1 (sg l).2).2.2.2.2 = true → (if infW (sg l).2 = true then ((1, ((sg l).1 == [45]), ⟨#[]⟩, ⟨#[]⟩, true) : D5) else if nanW (sg l).2 = true then (if decide (((txt (sg l).2).size : Int) < ((txt l).size : Int)) = true then zeroD else (2, false, ⟨#[]⟩, ⟨#[]⟩, true)) else zeroD) = wordD (sg l).1 (sg l).2) := by
      rw [hz]
      unfold wordD
      cases infW (sg l).2 with
      | true => exact ⟨rfl, fun _ => rfl⟩
      | false =>
        cases nanW (sg l).2 with
        | true =>
          cases ((sg l).1 == []) with
          | true => exact ⟨rfl, fun _ => rfl⟩
          | false => exact ⟨rfl, fun q => Bool.noConfusion (show false = true from q)⟩
        | false => exact ⟨rfl, fun _ => rfl⟩
    generalize hX : (if infW (sg l).2 = true then ((1, ((sg l).1 == [45]), ⟨#[]⟩, ⟨#[]⟩, true) : D5) else if nanW (sg l).2 = true then (if decide (((txt (sg l).2).size : Int) < ((txt l).size : Int)) = true then zeroD else (2, false, ⟨#[]⟩, ⟨#[]⟩, true)) else zeroD) = X at hw
    obtain ⟨hw1, hw2⟩ := hw
    rw [show X.2.2.2.2 = (wordD (sg l).1 (sg l).2).2.2.2.2 from hw1]
    cases h1 : (wordD (sg l).1 (sg l).2).2.2.2.2 with
    | true =>
      rw [if_pos rfl, if_pos rfl, hw2 h1, ← h1]
    | false =>
      rw [if_neg Bool.false_ne_true, if_neg Bool.false_ne_true, if_neg (by simpa using h2)]
      exact rflo_eq _ _ (by omega) k (by omega)
  · rw [show ((int12 l).toList != ([] : List UInt8)) = true from bne_iff_ne.2 h2, if_pos rfl]
    cases h1 : (wordD (sg l).1 (sg l).2).2.2.2.2 with
    | true => exact absurd (by rw [word_int l (hwd h1)]; exact txt_toList []) h2
    | false => rw [if_neg Bool.false_ne_true, if_pos h2]; rfl
end Go.Proofs.YtbjlcipamdgnjaaDoor.NumSpec
