/- Decimals of the old schema: the reference's Float11. No conditions but sizes. -/
import Derived.Test.YtkijneohhilboaaGreatDoorFloatSpec
namespace Go.Proofs.YtkijneohhilboaaGreatDoor.FloatSpec
set_option linter.unusedSimpArgs false
set_option linter.unusedVariables false
open Go.RowKit Go.Lib Go.Proofs.YtkijneohhilboaaGreatDoor.Room Go.Proofs.YtkijneohhilboaaGreatDoor.PT Go.Proofs.YtkijneohhilboaaGreatDoorW.PrintWords Go.Proofs.YtkijneohhilboaaGreatDoor.Aid Go.Proofs.YtkijneohhilboaaGreatDoor.Num Go.Proofs.YtkijneohhilboaaGreatDoor.BigFns Go.Proofs.YtkijneohhilboaaGreatDoor.BigQ Go.Proofs.YtkijneohhilboaaGreatDoor.RefBig Go.Proofs.YtkijneohhilboaaGreatDoor.DecSpec Go.Proofs.YtkijneohhilboaaGreatDoor.NumSpec Go.Proofs.YtkijneohhilboaaGreatDoor.IntSpec
theorem expo11_len {t : List UInt8} {z : Int} (h : expo11 t = some z) : (itoa z).length ≤ t.length + 2 := by
  cases t with
  | nil => obtain rfl := Option.some.inj (show some 0 = some z from h); rw [itoa_zero]; simp
  | cons x r =>
    have h' : (if (x = 101 ∨ x = 69) ∧ (sg r).1 ≠ [] ∧ okD (sg r).2 = true then some (sv r) else none) = some z := h
    split at h'
    · rename_i hc
      obtain rfl := Option.some.inj h'
      have h1 := sg_len r
      have h2 := dec_len_val _ ((okD_iff _).1 hc.2.2).1
      have h3 := itoa_len (sv r)
      have : (sv r).natAbs = val (sg r).2 := by unfold sv; split <;> omega
      rw [this] at h3
      rw [List.length_cons]; omega
    · cases h'
theorem whole11_ok {w d : List UInt8} {f : Int} (hw : w.length ≤ 100) (h : whole11 w = some (d, f)) : Digs d ∧ d ≠ [] ∧ d.length ≤ 1000 ∧ (f = 1 ∨ f = 3) := by
  unfold whole11 at h
  cases hf : firstD w with
  | false => rw [hf, if_neg Bool.false_ne_true] at h; cases h
  | true =>
    rw [hf, if_pos rfl] at h
    cases hb : bareL 10 w with
    | some d' =>
      rw [hb] at h
      obtain ⟨rfl, rfl⟩ := Prod.mk.inj (Option.some.inj (show some (d', 1) = some (d, f) from h))
      obtain ⟨e1, e2, e3, e4⟩ := bareL_ok hb
      have := sift_len w
      exact ⟨goodB_digs e4, e3, by rw [e1]; omega, .inl rfl⟩
    | none =>
      rw [hb] at h
      have h : (six w).map (fun n => (decDigits n, (3 : Int))) = some (d, f) := h
      obtain ⟨n, hn, e⟩ := Option.map_eq_some_iff.1 h
      obtain ⟨rfl, rfl⟩ := Prod.mk.inj e
      exact ⟨dec_digs n, dec_ne n, six_lim hw hn, .inr rfl⟩
theorem Float_j3 (neg : Bool) (K : Nat) (hK : 0 < K) (f : List UInt8) (b : Bool) (z : Int) (d : List UInt8) (form : Int) (hd : Digs d) (hne : d ≠ []) (hf : Digs f) (ld : d.length ≤ 2000) (lf : f.length ≤ 2000) (lz : (itoa z).length ≤ 2000) (bad : Bool) (k : Nat) (hk : 100001 ≤ k) :
    targumref6_Float11.j3 k neg (K : Int) (txt f) b (num z) (txt d) form bad = some (if bad = true then zero6 else six5 (makeN neg (d ++ f) (z - f.length)) form) := by
  obtain ⟨k, rfl⟩ : ∃ j, k = j + 1 := ⟨k - 1, by omega⟩
  simp only [targumref6_Float11.j3]
  cases bad with
  | true => rw [if_pos rfl, if_pos rfl]; rfl
  | false =>
    rw [if_neg Bool.false_ne_true, if_neg Bool.false_ne_true, if_neg (by omega), rMake_yes neg d f z (by omega) (by omega) (by omega) (hd.append hf) (fun e => hne (List.append_eq_nil_iff.1 e).1) k (by omega)]
    rfl
theorem Float_j1 (neg : Bool) (w rest : List UInt8) (hl : w.length + rest.length ≤ 99) (k : Nat) (hk : 100010 ≤ k) :
    targumref6_Float11.j1 k (txt (w ++ 46 :: rest)) neg (w.length : Int) (txt rest) ((rest.takeWhile isG).length : Int) = some (dec11 neg w rest) := by
  obtain ⟨k, rfl⟩ : ∃ j, k = j + 2 := ⟨k - 2, by omega⟩
  have hn := tw_len' isG rest
  have c1 : (txt rest).extract 0 (rest.takeWhile isG).length = txt (rest.takeWhile isG) := by
    apply ext_list; rw [extract_take, txt_list, txt_list, take_tw']
  have c2 : (txt rest).extract (rest.takeWhile isG).length (txt rest).size = txt (rest.dropWhile isG) := by
    apply ext_list; rw [extract_end, txt_list, txt_list, drop_tw']
  have c3 : (txt (w ++ 46 :: rest)).extract 0 w.length = txt w := by
    apply ext_list; rw [extract_take, txt_list, txt_list]; exact List.take_left' rfl
  have b1 := bare_eq 10 (by decide) (rest.takeWhile isG) (by omega) (k + 1) (by omega)
  rw [show ((10 : Nat) : Int) = 10 from rfl, row_bare] at b1
  have b2 := rtail11 (rest.dropWhile isG) (by omega) (k + 1) (by omega)
  have hrd := row_digs rest
  have hsl := sift_len (rest.takeWhile isG)
  have hcase : ((w ++ 46 :: rest).length : Int) = w.length + rest.length + 1 := by rw [List.length_append, List.length_cons]; omega
  simp only [targumref6_Float11.j1]
  rw [if_pos (by omega), txt_size, if_pos (by omega), Int.toNat_natCast, c1, b1, Option.bind_some, ← txt_size rest, c2, b2, Option.bind_some]
  unfold dec11
  cases he : expo11 (rest.dropWhile isG) with
  | none => rfl
  | some z =>
    have hz := expo11_len he
    dsimp only
    rw [if_pos rfl]
    generalize sift (rest.takeWhile isG) = f at hrd hsl
    by_cases hw : w = []
    · subst hw
      rw [if_pos rfl, if_neg (by simp), if_pos (by simp)]
      by_cases hf : f = []
      · rw [if_pos hf, decide_eq_false (fun q => q hf), if_neg Bool.false_ne_true]; rfl
      · have hm := rMake_yes neg [] f z (by simp) (by omega) (by omega) hrd hf (k + 1) (by omega)
        rw [if_neg hf, decide_eq_true hf, if_pos rfl, show (⟨#[]⟩ : ByteArray) = txt [] from rfl, hm]
        rfl
    · have hwl := List.length_pos_iff.2 hw
      rw [if_neg hw, if_pos (by omega), txt_size, if_pos (by omega)]
      obtain ⟨x, w', hxw⟩ : ∃ x w', w = x :: w' := by cases w with
        | nil => exact absurd rfl hw
        | cons x w' => exact ⟨x, w', rfl⟩
      have hb : bt (txt (w ++ 46 :: rest)) 0 = (x.toNat : Int) := by rw [hxw]; exact bt_head _ _
      have hfd : firstD w = isD x := by rw [hxw]; rfl
      rw [hb, isdig_eq, Option.bind_some]
      unfold whole11
      rw [hfd]
      cases hd : isD x with
      | false => rw [if_neg Bool.false_ne_true, if_neg Bool.false_ne_true]; rfl
      | true =>
        have b3 := bare_eq 10 (by decide) w (by omega) (k + 1) (by omega)
        rw [show ((10 : Nat) : Int) = 10 from rfl] at b3
        rw [if_pos rfl, if_pos rfl, if_pos (by omega), if_pos (by omega), Int.toNat_natCast, c3, b3, Option.bind_some]
        have hlast : ∀ (n : Int), decide ((((rest.takeWhile isG).length : Nat) : Int) < ((txt rest).size : Int)) = decide (rest.dropWhile isG ≠ []) := fun _ => by
          rw [txt_size, Bool.eq_iff_iff, decide_eq_true_iff, decide_eq_true_iff]
          constructor
          · intro q e; rw [e] at hn; simp at hn; omega
          · intro q; have := List.length_pos_iff.2 q; omega
        unfold bareR
        cases hbl : bareL 10 w with
        | some d =>
          obtain ⟨e1, e2, e3, e4⟩ := bareL_ok hbl
          have hdl : d.length ≤ w.length := by rw [e1]; exact sift_len _
          dsimp only
          rw [if_pos rfl]
          simp only [targumref6_Float11.j2]
          rw [if_pos True.intro, if_neg (by decide), Float_j3 neg w.length hwl f _ z d 1 (goodB_digs e4) e3 hrd (by omega) (by omega) (by omega) false k (by omega), if_neg Bool.false_ne_true, if_neg (fun q => absurd q.1 (by decide))]
        | none =>
          dsimp only
          rw [if_neg Bool.false_ne_true, sixty_eq w (by omega) (k + 1) (by omega), Option.bind_some]
          cases hs : six w with
          | none =>
            unfold sixO
            dsimp only
            simp only [targumref6_Float11.j2, Bool.false_eq_true, if_false]
            rw [show (⟨#[]⟩ : ByteArray) = txt [] from rfl]
            have : targumref6_Float11.j3 k neg (w.length : Int) (txt f) (decide (f ≠ [])) (num z) (txt []) 3 true = some zero6 := by
              obtain ⟨k, rfl⟩ : ∃ j, k = j + 1 := ⟨k - 1, by omega⟩
              simp only [targumref6_Float11.j3, if_true]; rfl
            rw [this]; rfl
          | some n =>
            unfold sixO
            dsimp only
            simp only [targumref6_Float11.j2, if_true]
            have hlim := six_lim (by omega) hs
            rw [num_nat, hlast 0, Float_j3 neg w.length hwl f _ z (decDigits n) 3 (dec_digs n) (dec_ne n) hrd (by omega) (by omega) (by omega) _ k (by omega)]
            show _ = some (if (3 : Int) = 3 ∧ rest.dropWhile isG ≠ [] then zero6 else _)
            congr 1
            by_cases hq : rest.dropWhile isG = []
            · rw [decide_eq_false (fun q => q hq), if_neg Bool.false_ne_true, if_neg (fun q => q.2 hq)]
            · rw [decide_eq_true hq, if_pos rfl, if_pos ⟨rfl, hq⟩]
theorem Float11_eq (l : List UInt8) (hl : l.length ≤ 90) (k : Nat) (hk : 101000 ≤ k) : targumref6_Float11.f k (txt l) = some (float11 l) := by
  have hsl := sg_len l
  have hsa := congrArg List.length (sg_app l)
  rw [List.length_append] at hsa
  have hsig : decide (((sg l).2.length : Int) < (l.length : Int)) = decide ((sg l).1 ≠ []) := by
    rw [Bool.eq_iff_iff, decide_eq_true_iff, decide_eq_true_iff]
    constructor
    · intro q e; rw [e] at hsa; simp at hsa; omega
    · intro q; have := List.length_pos_iff.2 q; omega
  unfold targumref6_Float11.f float11
  rw [rsign_eq]
  simp only [Option.bind_some, txt_size]
  rw [hsig, rodd_eq _ _ _ k (by omega)]
  simp only [Option.bind_some]
  generalize (sg l).2 = t at *
  generalize ((sg l).1 == [45]) = neg
  cases h1 : infW t with
  | true =>
    rw [if_pos rfl, if_pos rfl]
    dsimp only
    rw [if_pos rfl, wrap_id (x := 4 + 1) (by omega) (by omega), wrap_id (x := 4 + 1 - 1) (by omega) (by omega)]
    rfl
  | false =>
    rw [if_neg Bool.false_ne_true, if_neg Bool.false_ne_true]
    have hrest : (targumref6_find.f k (txt t) 46).bind (fun t457 => (if t457 < 0 then (some (0, false, (⟨#[]⟩ : ByteArray), (⟨#[]⟩ : ByteArray), 0)) else (if 0 ≤ (wrap64 (t457 + 1)) then (if (wrap64 (t457 + 1)) ≤ (t.length : Int) then (targumref6_Float11.l0 k (txt t) neg t457 ((txt t).extract ((wrap64 (t457 + 1)) : Int).toNat t.length) 0) else (none)) else (none)))) = some (match cut46 t with | none => zero6 | some (w, rest) => dec11 neg w rest) := by
      have hf := find_eq 46 t (by omega) k (by omega)
      rw [show ((46 : UInt8).toNat : Int) = 46 from rfl] at hf
      rw [hf]
      simp only [Option.bind_some]
      rcases find46 t with ⟨e1, e2⟩ | ⟨w, r, e1, e2, e3⟩
      · rw [e1, e2, if_pos (by omega)]; rfl
      · have htl : t.length = w.length + (r.length + 1) := by rw [e2, List.length_append, List.length_cons]
        have hx : (txt t).extract (w.length + 1) (txt t).size = txt r := by
          apply ext_list
          rw [extract_end, txt_list, txt_list, e2]
          rw [show w ++ 46 :: r = (w ++ [46]) ++ r by simp, show w.length + 1 = (w ++ [46]).length by simp]
          exact List.drop_left' rfl
        rw [e1, e3, if_neg (by omega), wrap_id (x := (w.length : Int) + 1) (by omega) (by omega), if_pos (by omega), if_pos (by omega), ← txt_size t, show ((w.length : Int) + 1).toNat = w.length + 1 by omega, hx]
        dsimp only
        refine float_l0 (txt t) neg (w.length : Int) r (by omega) _ 100010 _ rfl (fun k hk => ?_) r [] k rfl (fun x hx => (List.not_mem_nil hx).elim) (by omega)
        rw [e2]
        exact Float_j1 neg w r (by omega) k hk
    cases h2 : nanW t with
    | false =>
      rw [if_neg Bool.false_ne_true, if_neg (show ¬ (false = true ∧ (sg l).1 = []) from fun q => by cases q.1)]
      rw [if_neg (show ¬ zeroD.2.2.2.2 = true from Bool.false_ne_true)]
      exact hrest
    | true =>
      rw [if_pos rfl]
      by_cases h3 : (sg l).1 = []
      · rw [decide_eq_false (fun q => q h3), if_neg Bool.false_ne_true]
        dsimp only
        rw [if_pos rfl, wrap_id (x := 4 + 2) (by omega) (by omega), wrap_id (x := 4 + 2 - 1) (by omega) (by omega), if_pos ⟨rfl, h3⟩]
        rfl
      · rw [decide_eq_true h3, if_pos rfl, if_neg (show ¬ (true = true ∧ (sg l).1 = []) from fun q => h3 q.2)]
        rw [if_neg (show ¬ zeroD.2.2.2.2 = true from Bool.false_ne_true)]
        exact hrest
end Go.Proofs.YtkijneohhilboaaGreatDoor.FloatSpec
