/- Whole numbers of the old schema: int11.Of tells the reference's number. No conditions but sizes. -/
import Derived.Test.YtkijneohhilboaaDoorIntProg3
namespace Go.Proofs.YtkijneohhilboaaDoor.IntSpec
set_option linter.unusedSimpArgs false
set_option linter.unusedVariables false
open Go.RowKit Go.Lib Go.Proofs.YtkijneohhilboaaDoor.Room Go.Proofs.YtkijneohhilboaaDoor.PI Go.Proofs.YtkijneohhilboaaDoorW.PrintWords Go.Proofs.YtkijneohhilboaaDoor.Aid Go.Proofs.YtkijneohhilboaaDoor.Num Go.Proofs.YtkijneohhilboaaDoor.BigFns Go.Proofs.YtkijneohhilboaaDoor.BigQ Go.Proofs.YtkijneohhilboaaDoor.RefBig Go.Proofs.YtkijneohhilboaaDoor.DecSpec Go.Proofs.YtkijneohhilboaaDoor.NumSpec Go.Proofs.YtkijneohhilboaaDoor.Jump
theorem small_l0 (P : List UInt8) (hP : P.length ≤ 2) (hd : Digs P) : ∀ (r a : List UInt8) (k : Nat), a ++ r = P → r.length + 1 ≤ k → int11_small.l0 k (txt P) (val a : Int) ((txt P).size : Int) (a.length : Int) = some (val P : Int)
  | [], a, k, h, hk => by
    obtain ⟨k, rfl⟩ : ∃ q, k = q + 1 := ⟨k - 1, by omega⟩
    rw [List.append_nil] at h
    subst h
    simp only [int11_small.l0]
    rw [txt_size, if_neg (by omega)]
  | x :: r, a, k, h, hk => by
    obtain ⟨k, rfl⟩ : ∃ q, k = q + 1 := ⟨k - 1, by omega⟩
    have hl : P.length = a.length + (r.length + 1) := by rw [← h, List.length_append, List.length_cons]
    rw [List.length_cons] at hk
    have hx : isDig x := hd x (by rw [← h]; simp)
    have hb : bt (txt P) (a.length : Int) = (x.toNat : Int) := by rw [← h]; exact bt_mid a x r
    have hv := val_lt a (fun y hy => hd y (by rw [← h]; simp [hy]))
    have ha : (10 : Nat) ^ a.length ≤ 10 ^ 2 := Nat.pow_le_pow_right (by decide) (by omega)
    have h100 : (10 : Nat) ^ 2 = 100 := by decide
    simp only [int11_small.l0]
    have hdx : ((x.toNat : Int) - 48) % 256 = (dv x : Int) := by have := hx.1; have := hx.2; unfold dv; omega
    have hdl := dv_lt hx
    have := small_l0 P hP hd r (a ++ [x]) k (by rw [← h]; simp) (by omega)
    rw [val_snoc, List.length_append, List.length_singleton, txt_size] at this
    rw [txt_size, if_pos (by omega), if_pos (by omega), if_pos (by omega), hb, hdx, wrap_id (x := 10 * (val a : Int)) (by omega) (by omega), wrap_id (x := 10 * (val a : Int) + (dv x : Int)) (by omega) (by omega), wrap_id (by omega) (by omega)]
    rw [show 10 * (val a : Int) + (dv x : Int) = ((dv x + 10 * val a : Nat) : Int) by omega, show (a.length : Int) + 1 = ((a.length + 1 : Nat) : Int) by omega]
    exact this
theorem small_eq {P : List UInt8} (h : okPart P = true) (k : Nat) (hk : 5 ≤ k) : int11_small.f k (txt P) = some (val P : Int) := by
  have := okPart_len h
  exact small_l0 P this (okPart_digs h).1 P [] k rfl (by omega)
theorem bigMulAdd (n v : Nat) (hv : v ≤ 100) (hn : (decDigits n).length ≤ 400) (k : Nat) (hk : 2000 ≤ k) : big_MulAdd.f k (num (n : Int)) 60 (v : Int) = some (num ((n * 60 + v : Nat) : Int)) := by
  have hz : (num (n : Int)).size ≤ 400 := by rw [num_nat, txt_size]; exact hn
  obtain ⟨r, h1, h2⟩ := muladd_both (num (n : Int)) 60 v (by omega) k (by omega)
  have h3 := rMulAdd_eq (n : Int) 60 v (by omega) (by omega) (by omega) (by omega) (by omega) (by rw [Int.natAbs_natCast]; omega) k (by rw [Int.natAbs_natCast]; omega)
  rw [h2] at h3
  rw [h1, Option.some.inj h3]
  rfl
theorem Norm_num (neg : Bool) (n : Nat) (hn : (decDigits n).length ≤ 1000) (k : Nat) (hk : 2000 ≤ k) : big_Norm.f k neg (num (n : Int)) = some (num (if neg = true then -(n : Int) else (n : Int))) := by
  rw [num_nat, Norm_any neg _ (by omega) k (by omega), (okD_iff _).2 ⟨dec_digs n, dec_ne n⟩, if_pos rfl, dec_val]
theorem of_l0 (neg : Bool) (X : List (List UInt8)) (hX : ∀ p ∈ X, okPart p = true) (hl : X.length ≤ 101) : ∀ (d i n m k : Nat), i + d = X.length → n < 10 ^ (101 + 2 * i) → sixW (X.drop i) n = some m → 3000 + d + 1 ≤ k →
    int11_Of.l0 k neg (num (n : Int)) (X.map txt) ((X.map txt).length : Int) (i : Int) = some (num (if neg = true then -(m : Int) else (m : Int)), true)
  | 0, i, n, m, k, hi, hn, hs, hk => by
    obtain ⟨k, rfl⟩ : ∃ q, k = q + 1 := ⟨k - 1, by omega⟩
    rw [List.drop_eq_nil_of_le (by omega)] at hs
    obtain rfl := Option.some.inj (show some n = some m from hs)
    have hd : (decDigits n).length ≤ 1000 := by rw [decDigits_length]; exact Nat.le_trans (nDigits_le (100 + 2 * i) n (by rw [show 100 + 2 * i + 1 = 101 + 2 * i by omega]; exact hn)) (by omega)
    simp only [int11_Of.l0]
    rw [List.length_map, if_neg (by omega), Norm_num neg n hd k (by omega)]
    rfl
  | d + 1, i, n, m, k, hi, hn, hs, hk => by
    obtain ⟨k, rfl⟩ : ∃ q, k = q + 1 := ⟨k - 1, by omega⟩
    have hlt : i < X.length := by omega
    have hd : (decDigits n).length ≤ 400 := by rw [decDigits_length]; exact Nat.le_trans (nDigits_le (100 + 2 * i) n (by rw [show 100 + 2 * i + 1 = 101 + 2 * i by omega]; exact hn)) (by omega)
    have hp := hX X[i] (List.getElem_mem hlt)
    rw [List.drop_eq_getElem_cons hlt] at hs
    unfold sixW at hs
    rw [if_pos hp] at hs
    have hr : rdOf ByteArray.empty (X.map txt) (i : Int) = txt X[i] := by
      unfold rdOf
      rw [Int.toNat_natCast, List.getD_eq_getElem?_getD, List.getElem?_map, List.getElem?_eq_getElem hlt]; rfl
    have hv := val_lt X[i] (okPart_digs hp).1
    have ha : (10 : Nat) ^ X[i].length ≤ 10 ^ 2 := Nat.pow_le_pow_right (by decide) (okPart_len hp)
    have h100 : (10 : Nat) ^ 2 = 100 := by decide
    have hpw : (10 : Nat) ^ (101 + 2 * (i + 1)) = 10 ^ (101 + 2 * i) * 100 := by rw [show 101 + 2 * (i + 1) = 101 + 2 * i + 2 by omega, Nat.pow_add, h100]
    simp only [int11_Of.l0]
    rw [List.length_map, if_pos (by omega), if_pos (by omega), if_pos (by omega), hr, small_eq hp k (by omega), Option.bind_some, bigMulAdd n (val X[i]) (by omega) hd k (by omega), Option.bind_some, wrap_id (by omega) (by omega)]
    have := of_l0 neg X hX hl d (i + 1) (n * 60 + val X[i]) m k (by omega) (by rw [hpw]; omega) hs (by omega)
    rw [show ((i + 1 : Nat) : Int) = (i : Int) + 1 by omega, List.length_map] at this
    exact this
theorem cols_mem : ∀ (q : List UInt8) (x : UInt8), x ∈ q → x = 58 ∨ ∃ p ∈ cols q, x ∈ p := by
  intro q
  induction q with
  | nil => intro x h; cases h
  | cons y q ih =>
    intro x h
    by_cases hy : y = 58
    · rcases List.mem_cons.1 h with e | e
      · exact .inl (e.trans hy)
      · rcases ih x e with h' | ⟨p, hp, hx⟩
        · exact .inl h'
        · right
          refine ⟨p, ?_, hx⟩
          rw [cols, if_pos hy]; exact List.mem_cons_of_mem _ hp
    · obtain ⟨p0, ps, hc⟩ : ∃ p0 ps, cols q = p0 :: ps := by
        cases hc : cols q with
        | nil => exact absurd hc (cols_ne q)
        | cons a b => exact ⟨a, b, rfl⟩
      have e1 : cols (y :: q) = (y :: p0) :: ps := by rw [cols, if_neg hy, hc]
      rw [e1]
      rcases List.mem_cons.1 h with e | e
      · exact .inr ⟨y :: p0, by simp, by rw [e]; simp⟩
      · rcases ih x e with h' | ⟨p, hp, hx⟩
        · exact .inl h'
        · rw [hc] at hp
          rcases List.mem_cons.1 hp with rfl | hp
          · exact .inr ⟨y :: p, by simp, by simp [hx]⟩
          · exact .inr ⟨p, by simp [hp], hx⟩
theorem parts_no95 {q : List UInt8} (h : (cols q).all okPart = true) : 95 ∉ q := by
  intro hx
  rcases cols_mem q 95 hx with e | ⟨p, hp, hx⟩
  · exact absurd e (by decide)
  · have := (okPart_digs (List.all_eq_true.1 h p hp)).1 95 hx
    exact absurd this.2 (by decide)
theorem okG_no58 {p : List UInt8} (h : okG 10 p = true) : 58 ∉ p := by
  intro hx
  have := List.all_eq_true.1 h 58 hx
  exact absurd this (by decide)
/-- the number told -/
theorem Of_eq (l : List UInt8) (hl : l.length ≤ 90) (k : Nat) (hk : 4000 ≤ k) : int11_Of.f k (txt l) = some ((int11 l).1, decide ((int11 l).2 > 0)) := by
  have hsl := sg_len l
  have hI : int11 l = intO ((sg l).1 == [45]) (core11 (sg l).2) := rfl
  unfold int11_Of.f
  rw [Form_eq l (by omega)]
  simp only [Option.bind_some]
  rw [unsigned_eq]
  simp only [Option.bind_some]
  rw [Replace_eq _ (by omega)]
  simp only [Option.bind_some]
  rw [hI]
  generalize (sg l).2 = t at hsl
  generalize ((sg l).1 == [45]) = neg
  have hst := sift_len t
  have base : ∀ (B : Nat) (hB : B = 2 ∨ B = 8 ∨ B = 16) (r d : List UInt8), r.length ≤ 90 → bareL B r = some d → (big_Base.f k (txt (sift r)) (B : Int)).bind (fun t127 => (big_Norm.f k neg t127).bind fun t128 => some (t128, true)) = some (num (if neg = true then -(bval B d : Int) else (bval B d : Int)), true) := by
    intro B hB r d hr h
    obtain ⟨e1, e2, e3, e4⟩ := bareL_ok h
    have hdl := sift_len r
    rw [← e1] at hdl ⊢
    have hbt : baseT B d = num (bval B d : Nat) := by unfold baseT; rw [if_pos e4]
    have hlim := bval_lim (B := B) (by omega) e4 (by omega)
    rw [Base_any B hB d (by omega) k (by omega), if_neg e3, hbt, Option.bind_some, Norm_num neg _ (by omega) k (by omega)]
    rfl
  have none' : core11 t = none → (intO neg (core11 t)).2 = 0 ∧ intO neg (core11 t) = (⟨#[]⟩, 0) := fun h => by rw [h]; exact ⟨rfl, rfl⟩
  cases hc : core11 t with
  | none => rw [show intO neg none = (⟨#[]⟩, 0) from rfl, if_pos rfl]; rfl
  | some p =>
    obtain ⟨n, f⟩ := p
    rw [show (intO neg (some (n, f))).2 = f from rfl, show (intO neg (some (n, f))).1 = num (if neg = true then -(n : Int) else (n : Int)) from rfl]
    unfold core11 at hc
    by_cases h1 : t.take 2 = [48, 98]
    · rw [if_pos h1] at hc
      obtain ⟨d, hd, e⟩ := Option.map_eq_some_iff.1 hc
      obtain ⟨rfl, rfl⟩ := Prod.mk.inj e
      obtain ⟨r, rfl⟩ : ∃ r, t = 48 :: 98 :: r := ⟨t.drop 2, by rw [← List.take_append_drop 2 t, h1]; rfl⟩
      have hsf : sift (48 :: 98 :: r) = 48 :: 98 :: sift r := by rw [sift_cons, if_neg (by decide), sift_cons, if_neg (by decide)]
      have hx : (txt (sift (48 :: 98 :: r))).extract 2 (txt (sift (48 :: 98 :: r))).size = txt (sift r) := by apply ext_list; rw [extract_end, txt_list, txt_list, hsf]; rfl
      have hsz : (2 : Int) ≤ ((txt (sift (48 :: 98 :: r))).size : Int) := by rw [txt_size, hsf, List.length_cons, List.length_cons]; omega
      have := base 2 (.inl rfl) r d (by simp at hsl; omega) hd
      rw [if_neg (by decide), if_pos rfl, if_pos hsz, hx]
      exact this
    · rw [if_neg h1] at hc
      by_cases h2 : t.take 2 = [48, 120]
      · rw [if_pos h2] at hc
        obtain ⟨d, hd, e⟩ := Option.map_eq_some_iff.1 hc
        obtain ⟨rfl, rfl⟩ := Prod.mk.inj e
        obtain ⟨r, rfl⟩ : ∃ r, t = 48 :: 120 :: r := ⟨t.drop 2, by rw [← List.take_append_drop 2 t, h2]; rfl⟩
        have hsf : sift (48 :: 120 :: r) = 48 :: 120 :: sift r := by rw [sift_cons, if_neg (by decide), sift_cons, if_neg (by decide)]
        have hx : (txt (sift (48 :: 120 :: r))).extract 2 (txt (sift (48 :: 120 :: r))).size = txt (sift r) := by apply ext_list; rw [extract_end, txt_list, txt_list, hsf]; rfl
        have hsz : (2 : Int) ≤ ((txt (sift (48 :: 120 :: r))).size : Int) := by rw [txt_size, hsf, List.length_cons, List.length_cons]; omega
        have := base 16 (.inr (.inr rfl)) r d (by simp at hsl; omega) hd
        rw [if_neg (by decide), if_neg (by decide), if_pos rfl, if_pos hsz, hx]
        exact this
      · rw [if_neg h2] at hc
        by_cases h3 : t = [48]
        · rw [if_pos h3] at hc
          obtain ⟨rfl, rfl⟩ := Prod.mk.inj (Option.some.inj hc)
          subst h3
          have hn := Norm_num neg 0 (by rw [dec_zero]; simp) k (by omega)
          rw [if_neg (by decide), if_neg (by decide), if_neg (by decide), if_neg (by decide), if_neg (by decide)]
          rw [show txt (sift [48]) = num ((0 : Nat) : Int) from num_zero, hn]
          rfl
        · rw [if_neg h3] at hc
          by_cases h4 : t.head? = some 48
          · rw [if_pos h4] at hc
            obtain ⟨d, hd, e⟩ := Option.map_eq_some_iff.1 hc
            obtain ⟨rfl, rfl⟩ := Prod.mk.inj e
            obtain ⟨r, rfl⟩ : ∃ r, t = 48 :: r := by
              cases t with
              | nil => cases h4
              | cons x r => exact ⟨r, by rw [show x = 48 by simpa using h4]⟩
            have hsf : sift (48 :: r) = 48 :: sift r := by rw [sift_cons, if_neg (by decide)]
            have hx : (txt (sift (48 :: r))).extract 1 (txt (sift (48 :: r))).size = txt (sift r) := by apply ext_list; rw [extract_end, txt_list, txt_list, hsf]; rfl
            have hsz : (1 : Int) ≤ ((txt (sift (48 :: r))).size : Int) := by rw [txt_size, hsf, List.length_cons]; omega
            have := base 8 (.inr (.inl rfl)) r d (by simp at hsl; omega) hd
            rw [if_neg (by decide), if_neg (by decide), if_neg (by decide), if_pos rfl, if_pos hsz, hx]
            exact this
          · rw [if_neg h4] at hc
            split at hc
            · rename_i hfst
              obtain ⟨x, hx1, hx2⟩ := hfst
              obtain ⟨r, rfl⟩ : ∃ r, t = x :: r := by
                cases t with
                | nil => simp at hx1
                | cons y r => exact ⟨r, by rw [show y = x by simpa using hx1]⟩
              have hxd : 48 ≤ x.toNat ∧ x.toNat ≤ 57 := ⟨by omega, hx2.2⟩
              rw [bareL_dig hxd] at hc
              cases ho : okG 10 r with
              | true =>
                rw [ho, if_pos rfl] at hc
                obtain ⟨rfl, rfl⟩ := Prod.mk.inj (Option.some.inj hc)
                have hb : bareL 10 (x :: r) = some (x :: sift r) := by rw [bareL_dig hxd, if_pos ho]
                obtain ⟨e1, e2, e3, e4⟩ := bareL_ok hb
                rw [if_neg (by decide), if_neg (by decide), if_neg (by decide), if_neg (by decide), if_neg (by decide)]
                rw [Norm_any neg (sift (x :: r)) (by omega) k (by omega), ← e1, (okD_iff _).2 ⟨goodB_digs e4, e3⟩, if_pos rfl]
                rfl
              | false =>
                rw [ho, if_neg Bool.false_ne_true] at hc
                have hc : (six (x :: r)).map (fun n => (n, (6 : Int))) = some (n, f) := hc
                obtain ⟨m, hm, e⟩ := Option.map_eq_some_iff.1 hc
                obtain ⟨rfl, rfl⟩ := Prod.mk.inj e
                rcases span58 r with ⟨g1, _⟩ | ⟨p, q, e, hp, _, _⟩
                · rw [six_none hxd g1] at hm; cases hm
                · rw [six_of hxd e hp] at hm
                  by_cases hop : okG 10 p = true
                  · rw [if_pos hop] at hm
                    have hall : (cols q).all okPart = true := by
                      have := sixW_some (cols q) (val (x :: sift p))
                      rw [hm] at this; exact this.symm
                    have hb : bareL 10 (x :: p) = some (x :: sift p) := by rw [bareL_dig hxd, if_pos hop]
                    obtain ⟨e1, e2, e3, e4⟩ := bareL_ok hb
                    have hdg := goodB_digs e4
                    have hrl : r.length = p.length + (q.length + 1) := by rw [e, List.length_append, List.length_cons]
                    have hsl' : r.length + 1 ≤ 90 := by rw [List.length_cons] at hsl; omega
                    have hsf : sift (x :: r) = (x :: sift p) ++ 58 :: q := by rw [sift_dig hxd, e, sift_append, sift_cons, if_neg (by decide), sift_no (parts_no95 hall)]; rfl
                    have h58 : 58 ∉ x :: sift p := fun h => absurd (hdg 58 h).2 (by decide)
                    have hcols : cols (sift (x :: r)) = (x :: sift p) :: cols q := (cols_head _).2 _ _ hsf h58
                    have hspl := sift_len p
                    have hcl := cols_len q
                    rw [if_neg (by decide), if_neg (by decide), if_neg (by decide), if_neg (by decide), if_pos rfl, Split_eq _ (by omega), Option.bind_some, hcols, List.map_cons, List.length_cons, List.length_map, if_pos (by omega)]
                    rw [show rdOf ByteArray.empty (txt (x :: sift p) :: (cols q).map txt) 0 = txt (x :: sift p) from rfl, Norm_any false _ (by rw [List.length_cons]; omega) k (by rw [List.length_cons]; omega), (okD_iff _).2 ⟨hdg, e3⟩, if_pos rfl, Option.bind_some, if_pos (by omega), List.drop_succ_cons, List.drop_zero]
                    have hv := val_lt _ hdg
                    have hpw : (10 : Nat) ^ (x :: sift p).length ≤ 10 ^ 101 := Nat.pow_le_pow_right (by decide) (by rw [List.length_cons]; omega)
                    have := of_l0 neg (cols q) (fun p hp => List.all_eq_true.1 hall p hp) (by omega) (cols q).length 0 (val (x :: sift p)) m k (by omega) (by rw [Nat.mul_zero, Nat.add_zero]; exact Nat.lt_of_lt_of_le hv hpw) hm (by omega)
                    exact this
                  · rw [if_neg hop] at hm; cases hm
            · cases hc
theorem Is_eq (l : List UInt8) (hl : l.length ≤ 100000) : int11_Is.f (txt l) = some ((int11 l).2 != 0) := by
  unfold int11_Is.f
  rw [Form_eq l hl]; rfl
end Go.Proofs.YtkijneohhilboaaDoor.IntSpec
