/- Decimals of the new schema made of parts: digits, a point, a power. No conditions but sizes. -/
import Derived.Test.YtbjlcipamdgnjaaDoorNum12Law
import Derived.Test.YtbjlcipamdgnjaaDoorPNx13
namespace Go.Proofs.YtbjlcipamdgnjaaDoor.NumSpec
set_option linter.unusedSimpArgs false
set_option linter.unusedVariables false
open Go.RowKit Go.Lib Go.Proofs.YtbjlcipamdgnjaaDoor.Room Go.Proofs.YtbjlcipamdgnjaaDoor.PN Go.Proofs.YtbjlcipamdgnjaaDoorW.PrintWords Go.Proofs.YtbjlcipamdgnjaaDoor.Aid Go.Proofs.YtbjlcipamdgnjaaDoor.Num Go.Proofs.YtbjlcipamdgnjaaDoor.BigFns Go.Proofs.YtbjlcipamdgnjaaDoor.BigQ Go.Proofs.YtbjlcipamdgnjaaDoor.RefBig Go.Proofs.YtbjlcipamdgnjaaDoor.DecSpec
theorem dec_len_mono {u v : Nat} (h : u ≤ v) : (decDigits u).length ≤ (decDigits v).length := by
  rcases Nat.lt_or_ge (decDigits v).length (decDigits u).length with q | q
  · have := dec_len_lt q; omega
  · exact q
theorem num_len_add (z δ : Int) (h : δ.natAbs ≤ 1099511627776) : (itoa (z + δ)).length ≤ (itoa z).length + 20 := by
  have h1 := itoa_len (z + δ)
  have h2 := itoa_len z
  have h3 := dec_len_mono (show (z + δ).natAbs ≤ z.natAbs + δ.natAbs by omega)
  have h4 := dec_len_add z.natAbs δ.natAbs h
  omega
theorem trimL_len (l : List UInt8) : (trimLeftS l [48]).length ≤ l.length := by
  obtain ⟨n, c, e, hc⟩ := splitL l
  rw [e, trimL_zs n c hc, List.length_append]; omega
theorem makeN_size (neg : Bool) (l : List UInt8) (x : Int) (hl : l.length ≤ 20000) : (makeN neg l x).2.2.1.size ≤ l.length + 1 ∧ (makeN neg l x).2.2.2.1.size ≤ (itoa x).length + 20 := by
  have h1 := trimR_len l
  have h2 := trimL_len (trimRightS l [48])
  unfold makeN
  split
  · have := itoa_len x
    have := dec_pos x.natAbs
    simp only [txt_size, List.length_singleton]
    omega
  · simp only [txt_size, num_size]
    have := num_len_add x ((l.length : Int) - ((trimRightS l [48]).length : Int)) (by omega)
    omega
theorem printL_len (K : Int) (neg : Bool) (d e : List UInt8) : (printL K neg d e).length ≤ d.length + e.length + 5 := by
  have h1 : (signL neg).length ≤ 1 := by unfold signL; cases neg <;> simp
  have h2 : (plusL e).length ≤ 1 := by unfold plusL; split <;> simp
  unfold printL
  split
  · simp
  · split
    · simp only [List.length_append, List.length_cons, List.length_nil]; omega
    · simp only [List.length_append, List.length_cons, List.length_nil]; omega
theorem zs_add (a b : Nat) : zs a ++ zs b = zs (a + b) := by unfold zs; exact List.replicate_append_replicate
theorem makeN_noughts (neg : Bool) (n : Nat) (x : Int) : makeN neg (zs n) x = (0, neg, txt [48], txt [48], true) := by
  unfold makeN
  rw [trims_noughts, if_pos (show trimLeftS [] [48] = [] from rfl)]
theorem makeN_core (neg : Bool) (a b : Nat) {c : List UInt8} (h1 : HeadNo c) (h2 : LastNo c) (h3 : c ≠ []) (x : Int) : makeN neg (zs a ++ c ++ zs b) x = (0, neg, txt c, num (x + b), true) := by
  obtain ⟨e1, e2⟩ := trims_core (a := a) (b := b) h1 h2 h3
  unfold makeN
  rw [e1, e2, if_neg h3]
  have e3 : (zs a ++ c ++ zs b).length = (zs a ++ c).length + b := by rw [List.length_append, zs_length]
  have : ((zs a ++ c ++ zs b).length : Int) - ((zs a ++ c).length : Int) = (b : Int) := by omega
  rw [this]
theorem makeN_pad (neg : Bool) (a b : Nat) (l : List UInt8) (x : Int) : makeN neg (zs a ++ l ++ zs b) x = makeN neg l (x + b) := by
  rcases split3 l with ⟨n, rfl⟩ | ⟨a', c, b', rfl, h1, h2, h3⟩
  · rw [zs_add, zs_add, makeN_noughts, makeN_noughts]
  · have e : zs a ++ (zs a' ++ c ++ zs b') ++ zs b = zs (a + a') ++ c ++ zs (b' + b) := by
      rw [← zs_add, ← zs_add]; simp only [List.append_assoc]
    have e' : x + ((b' + b : Nat) : Int) = x + (b : Int) + (b' : Int) := by omega
    rw [e, makeN_core neg _ _ h1 h2 h3, makeN_core neg _ _ h1 h2 h3, e']
theorem makeN_good (neg : Bool) (l : List UInt8) (hd : Digs l) (x : Int) : (makeN neg l x).1 = 0 ∧ (makeN neg l x).2.1 = neg ∧ (makeN neg l x).2.2.2.2 = true ∧ goodD (makeN neg l x).1 (makeN neg l x).2.1 (makeN neg l x).2.2.1.data.toList (makeN neg l x).2.2.2.1.data.toList := by
  rcases split3 l with ⟨n, rfl⟩ | ⟨a, c, b, rfl, h1, h2, h3⟩
  · rw [makeN_noughts]
    exact ⟨rfl, rfl, rfl, .inl ⟨rfl, rfl, rfl⟩⟩
  · rw [makeN_core neg a b h1 h2 h3]
    refine ⟨rfl, rfl, rfl, .inr (.inl ⟨rfl, ⟨fun y hy => hd y ?_, h3, h1, h2⟩, num_isNum _⟩)⟩
    have hy' : y ∈ c := hy
    simp [hy']
theorem nil_txt : (⟨#[]⟩ : ByteArray) = txt [] := rfl
theorem digits8_l0 (s : ByteArray) (hs : s.size ≤ 1000000) : ∀ (d k i : Nat) (xs : List Int), i + d = s.size → xs.length = s.size → (∀ j < i, xs[j]? = some (48 + ((ba s.data.toList j) % 10))) → d + 1 ≤ k →
    targumlaw8_digits.l0 k s xs i = some (txt (digL s.data.toList))
  | 0, k, i, xs, hi, hl, hx, hk => by
    obtain ⟨k, rfl⟩ : ∃ m, k = m + 1 := ⟨k - 1, by omega⟩
    simp only [targumlaw8_digits.l0]
    rw [if_neg (by omega)]
    congr 1
    apply ext_list
    rw [strOfNums_data, txt_list]
    apply List.ext_getElem?
    intro j
    unfold digL
    rw [List.getElem?_map, List.getElem?_map]
    by_cases hj : j < i
    · have hjl : j < s.data.toList.length := by rw [← Lib.size_eq]; omega
      rw [hx j hj, List.getElem?_eq_getElem hjl]
      simp only [Option.map_some, Option.some.injEq]
      have : ba s.data.toList j = ((s.data.toList[j]).toNat : Int) := by unfold ba; rw [List.getD_eq_getElem?_getD, List.getElem?_eq_getElem hjl]; rfl
      rw [this]
      congr 1
    · rw [List.getElem?_eq_none (by omega), List.getElem?_eq_none (by rw [← Lib.size_eq]; omega)]
      rfl
  | d + 1, k, i, xs, hi, hl, hx, hk => by
    obtain ⟨k, rfl⟩ : ∃ m, k = m + 1 := ⟨k - 1, by omega⟩
    have hr := ba_range s.data.toList i
    simp only [targumlaw8_digits.l0]
    rw [if_pos (by omega), if_pos (by omega), if_pos (by omega), wrap_id (by omega) (by omega), bt_nat, Int.tmod_eq_emod_of_nonneg hr.1, show (48 + ba s.data.toList i % 10) % 256 = 48 + ba s.data.toList i % 10 by omega, Int.toNat_natCast]
    have := digits8_l0 s hs d k (i + 1) (xs.set i (48 + ba s.data.toList i % 10)) (by omega) (by rw [List.length_set]; exact hl) (fun j hj => by
      by_cases e : j = i
      · subst e
        rw [List.getElem?_set_self (by omega)]
      · rw [List.getElem?_set_ne (by omega)]
        exact hx j (by omega)) (by omega)
    rw [show ((i + 1 : Nat) : Int) = (i : Int) + 1 by omega] at this
    exact this
theorem digits8 (s : ByteArray) (hs : s.size ≤ 1000000) (k : Nat) (hk : s.size + 1 ≤ k) : targumlaw8_digits.f k s = some (txt (digL s.data.toList)) := by
  unfold targumlaw8_digits.f
  rw [if_pos (by omega), if_pos (by omega)]
  exact digits8_l0 s hs s.size k 0 _ (by omega) (by rw [List.length_replicate]; omega) (fun j hj => absurd hj (by omega)) hk

/-! ### parts -/
theorem isD_of {x : UInt8} (h : isDig x) : isD x = true := decide_eq_true (p := 48 ≤ x.toNat ∧ x.toNat ≤ 57) h
/-- what stands behind digits -/
def Stop (R : List UInt8) : Prop := ∀ x ∈ R.head?, isD x = false
theorem tw_stop' {R : List UInt8} (h : Stop R) : R.takeWhile isD = [] ∧ R.dropWhile isD = R := by
  cases R with
  | nil => exact ⟨rfl, rfl⟩
  | cons x r =>
    have hx := h x (by simp)
    rw [List.takeWhile_cons, List.dropWhile_cons, hx]
    exact ⟨rfl, rfl⟩
theorem tw_parts {W R : List UInt8} (hW : Digs W) (hR : Stop R) : (W ++ R).takeWhile isD = W ∧ (W ++ R).dropWhile isD = R := by
  have h : ∀ x ∈ W, isD x = true := fun x hx => isD_of (hW x hx)
  obtain ⟨a, b⟩ := tw_stop' hR
  rw [List.takeWhile_append_of_pos h, List.dropWhile_append_of_pos h, a, b, List.append_nil]
  exact ⟨rfl, rfl⟩
/-- a power behind a decimal, or none -/
inductive Tail : List UInt8 → Int → Prop
  | no : Tail [] 0
  | pow (r : List UInt8) (h : okD (sg r).2 = true) : Tail (101 :: r) (sv r)
theorem Tail.stop {t : List UInt8} {z : Int} (h : Tail t z) : Stop t := by
  cases h with
  | no => intro x hx; simp at hx
  | pow r h => intro x hx; simp at hx; subst hx; decide
theorem Tail.expo {t : List UInt8} {z : Int} (h : Tail t z) : expo t = some z := by
  cases h with
  | no => rfl
  | pow r h =>
    show (if ((101 : UInt8) = 101 ∨ (101 : UInt8) = 69) ∧ okD (sg r).2 = true then some (sv r) else none) = _
    rw [if_pos ⟨.inl rfl, h⟩]
theorem sg_snoc95 (r : List UInt8) : okD (sg (r ++ [95])).2 = false := by
  cases hb : okD (sg (r ++ [95])).2 with
  | false => rfl
  | true =>
    have hd := ((okD_iff _).1 hb).1
    have h95 : (95 : UInt8) ∈ (sg (r ++ [95])).2 := by
      cases r with
      | nil => simp [sg]
      | cons x r =>
        rw [List.cons_append]
        unfold sg; dsimp only
        split <;> simp
    exact absurd (hd _ h95).2 (by decide)
theorem Tail.bad {t : List UInt8} {z : Int} (h : Tail t z) : NumSpec.expo (t ++ [95]) = none := by
  cases h with
  | no => rfl
  | pow r h =>
    show (if ((101 : UInt8) = 101 ∨ (101 : UInt8) = 69) ∧ okD (sg (r ++ [95])).2 = true then some (sv (r ++ [95])) else none) = _
    rw [if_neg (by rw [sg_snoc95]; simp)]
theorem Tail.stop95 {t : List UInt8} {z : Int} (h : Tail t z) : Stop (t ++ [95]) := by
  cases h with
  | no => intro x hx; simp at hx; subst hx; decide
  | pow r h => intro x hx; simp at hx; subst hx; decide
/-- a point and digits, or nothing -/
def dotL (dot : Bool) (F : List UInt8) : List UInt8 := if dot then 46 :: F else []
theorem frac_parts {dot : Bool} {F t : List UInt8} (hF : Digs F) (hd : dot = false → F = []) (ht : Stop t) (ht' : t.head? ≠ some 46) : frac (dotL dot F ++ t) = (F, t) := by
  cases dot with
  | true =>
    show (if (46 : UInt8) = 46 then ((F ++ t).takeWhile isD, (F ++ t).dropWhile isD) else ([], 46 :: (F ++ t))) = _
    obtain ⟨a, b⟩ := tw_parts hF ht
    rw [if_pos rfl, a, b]
  | false =>
    rw [hd rfl]
    show frac t = _
    cases t with
    | nil => rfl
    | cons x r =>
      unfold frac; dsimp only
      rw [if_neg]
      intro e; subst e; exact ht' rfl
theorem dot_stop {dot : Bool} {F t : List UInt8} (ht : Stop t) : Stop (dotL dot F ++ t) := by
  cases dot with
  | true => intro x hx; have : x = 46 := by simpa [dotL] using hx.symm
            subst this; decide
  | false => exact ht
theorem flo_parts (neg : Bool) {W F t : List UInt8} {dot : Bool} (hW : Digs W) (hF : Digs F) (hd : dot = false → F = []) (ht : Stop t) (ht' : t.head? ≠ some 46) : flo neg (W ++ (dotL dot F ++ t)) = fin neg W F t := by
  obtain ⟨a, b⟩ := tw_parts hW (dot_stop (dot := dot) (F := F) ht)
  unfold flo
  rw [a, b, frac_parts hF hd ht ht']
theorem Tail.no46 {t : List UInt8} {z : Int} (h : Tail t z) (m : List UInt8) (hm : m.head? ≠ some 46) : (t ++ m).head? ≠ some 46 := by
  cases h with
  | no => exact hm
  | pow r h => simp
theorem sg_sign' {neg : Bool} {b : List UInt8} (hb : ∀ x ∈ b.head?, x ≠ 43 ∧ x ≠ 45) : sg (signL neg ++ b) = (signL neg, b) := by
  cases neg with
  | true => rfl
  | false =>
    show sg b = ([], b)
    cases b with
    | nil => rfl
    | cons x r =>
      have := hb x (by simp)
      unfold sg; dsimp only
      rw [if_neg (by simp [this.1, this.2])]
/-- how a decimal's text begins -/
structure Body (W F t : List UInt8) (dot : Bool) (z : Int) : Prop where
  w : Digs W
  f : Digs F
  ne : W ++ F ≠ []
  nod : dot = false → F = []
  tail : Tail t z
  more : dot = true ∨ t ≠ []
theorem Body.head {W F t : List UInt8} {dot : Bool} {z : Int} (h : Body W F t dot z) (m : List UInt8) :
    (∃ x r, W = x :: r ∧ isDig x) ∨ (∃ x r, W = [] ∧ dot = true ∧ F = x :: r ∧ isDig x ∧ W ++ (dotL dot F ++ (t ++ m)) = 46 :: x :: (r ++ (t ++ m))) := by
  cases hW : W with
  | cons x r => exact .inl ⟨x, r, rfl, h.w x (by rw [hW]; simp)⟩
  | nil =>
    cases hF : F with
    | nil => exact absurd (by rw [hW, hF]; rfl) h.ne
    | cons x r =>
      have hdot : dot = true := by
        cases hd : dot with
        | true => rfl
        | false => have := h.nod hd; rw [hF] at this; simp at this
      refine .inr ⟨x, r, rfl, hdot, rfl, h.f x (by rw [hF]; simp), ?_⟩
      rw [hdot]; rfl
theorem Body.first {W F t : List UInt8} {dot : Bool} {z : Int} (h : Body W F t dot z) (m : List UInt8) : ∀ x ∈ (W ++ (dotL dot F ++ (t ++ m))).head?, x ≠ 43 ∧ x ≠ 45 := by
  intro x hx
  rcases h.head m with ⟨y, r, e, hy⟩ | ⟨y, r, e1, e2, e3, hy, e⟩
  · rw [e] at hx
    have : x = y := by simpa using hx.symm
    subst this
    exact ⟨fun e => by subst e; exact absurd hy.1 (by decide), fun e => by subst e; exact absurd hy.1 (by decide)⟩
  · rw [e] at hx
    have : x = 46 := by simpa using hx.symm
    subst this
    exact ⟨by decide, by decide⟩
theorem Body.word {W F t : List UInt8} {dot : Bool} {z : Int} (h : Body W F t dot z) (m : List UInt8) : infW (W ++ (dotL dot F ++ (t ++ m))) = false ∧ nanW (W ++ (dotL dot F ++ (t ++ m))) = false := by
  have key : ∀ a b c : UInt8, ¬ (48 ≤ a.toNat ∧ a.toNat ≤ 57) → W ++ (dotL dot F ++ (t ++ m)) ≠ [46, a, b, c] := by
    intro a b c ha q
    rcases h.head m with ⟨y, r, e, hy⟩ | ⟨y, r, e1, e2, e3, hy, e⟩
    · rw [e] at q
      have : y = 46 := by simpa using congrArg List.head? q
      subst this
      exact absurd hy.1 (by decide)
    · rw [e] at q
      have : y = a := (List.cons.inj (List.cons.inj q).2).1
      subst this
      exact ha hy
  unfold infW nanW
  rw [beq_eq_false_iff_ne.2 (key _ _ _ (by decide)), beq_eq_false_iff_ne.2 (key _ _ _ (by decide)), beq_eq_false_iff_ne.2 (key _ _ _ (by decide)), beq_eq_false_iff_ne.2 (key _ _ _ (by decide)), beq_eq_false_iff_ne.2 (key _ _ _ (by decide)), beq_eq_false_iff_ne.2 (key _ _ _ (by decide))]
  exact ⟨rfl, rfl⟩
theorem Body.take {W F t : List UInt8} {dot : Bool} {z : Int} (h : Body W F t dot z) (neg : Bool) (m : List UInt8) (b : UInt8) (hb : ¬ b.toNat ≤ 57) (hb' : b ≠ 101 ∧ b ≠ 95) (hm : m = [] ∨ m = [95]) : (signL neg ++ (W ++ (dotL dot F ++ (t ++ m)))).take 2 ≠ [48, b] := by
  intro q
  cases neg with
  | true =>
    have : (45 : UInt8) = 48 := by simpa [signL] using congrArg List.head? q
    exact absurd this (by decide)
  | false =>
    have q : (W ++ (dotL dot F ++ (t ++ m))).take 2 = [48, b] := q
    rcases h.head m with ⟨y, r, e, hy⟩ | ⟨y, r, e1, e2, e3, hy, e⟩
    · rw [e] at q
      cases r with
      | cons y' r =>
        have q' : [y, y'] = [48, b] := q
        have : y' = b := by simp at q'; exact q'.2
        subst this
        exact hb (h.w y' (by rw [e]; simp)).2
      | nil =>
        cases hd : dot with
        | true =>
          rw [hd] at q
          have q' : [y, 46] = [48, b] := q
          have : 46 = b := by simp at q'; exact q'.2
          subst this
          exact hb (by decide)
        | false =>
          rw [hd] at q
          have q : ([y] ++ (t ++ m)).take 2 = [48, b] := q
          cases h.tail with
          | no =>
            have := h.more
            rw [hd] at this
            simp at this
          | pow r' h' =>
            have q' : [y, 101] = [48, b] := q
            have : 101 = b := by simp at q'; exact q'.2
            exact hb'.1 this.symm
    · rw [e] at q
      have : (46 : UInt8) = 48 := by simpa using congrArg List.head? q
      exact absurd this (by decide)
theorem Body.noint {W F t : List UInt8} {dot : Bool} {z : Int} (h : Body W F t dot z) (neg : Bool) (m : List UInt8) (hm : m = [] ∨ m = [95]) : int12 (signL neg ++ (W ++ (dotL dot F ++ (t ++ m)))) = ⟨#[]⟩ := by
  refine int12_no (h.take neg m 111 (by decide) ⟨by decide, by decide⟩ hm) (h.take neg m 120 (by decide) ⟨by decide, by decide⟩ hm) ?_
  rw [sg_sign' (h.first m)]
  intro q
  rcases h.more with hd | ht
  · have := q 46 (by rw [hd]; simp [dotL])
    exact absurd this.1 (by decide)
  · cases h.tail with
    | no => exact ht rfl
    | pow r h' =>
      have := q 101 (by simp)
      exact absurd this.2 (by decide)
theorem Body.float {W F t : List UInt8} {dot : Bool} {z : Int} (h : Body W F t dot z) (neg : Bool) : float12 (signL neg ++ (W ++ (dotL dot F ++ t))) = makeN neg (W ++ F) (z - F.length) := by
  have hn := h.noint neg [] (.inl rfl)
  have hs := sg_sign' (neg := neg) (h.first [])
  obtain ⟨w1, w2⟩ := h.word []
  rw [List.append_nil] at hn hs w1 w2
  unfold float12
  rw [hs]
  have hw : (wordD (signL neg) (W ++ (dotL dot F ++ t))).2.2.2.2 = false := by
    unfold wordD; rw [w1, w2]; rfl
  have h46 := h.tail.no46 [] (by simp)
  rw [List.append_nil] at h46
  dsimp only
  rw [hw, if_neg Bool.false_ne_true, hn, if_neg (fun q => q nil_toList), flo_parts _ h.w h.f h.nod h.tail.stop h46]
  unfold fin
  rw [h.tail.expo]
  dsimp only
  rw [if_neg h.ne]
  cases neg <;> rfl
theorem Body.nofloat {W F t : List UInt8} {dot : Bool} {z : Int} (h : Body W F t dot z) (neg : Bool) : float12 (signL neg ++ (W ++ (dotL dot F ++ (t ++ [95])))) = zeroD := by
  have hn := h.noint neg [95] (.inr rfl)
  have hs := sg_sign' (neg := neg) (h.first [95])
  obtain ⟨w1, w2⟩ := h.word [95]
  unfold float12
  rw [hs]
  have hw : (wordD (signL neg) (W ++ (dotL dot F ++ (t ++ [95])))).2.2.2.2 = false := by
    unfold wordD; rw [w1, w2]; rfl
  dsimp only
  rw [hw, if_neg Bool.false_ne_true, hn, if_neg (fun q => q nil_toList), flo_parts _ h.w h.f h.nod h.tail.stop95 (h.tail.no46 [95] (by decide))]
  unfold fin
  rw [h.tail.bad]
/-- the power that is printed -/
theorem Tail.printed (z : Int) : Tail (101 :: (plusL (itoa z) ++ itoa z)) z := by
  have key : okD (sg (plusL (itoa z) ++ itoa z)).2 = true ∧ sv (plusL (itoa z) ++ itoa z) = z := by
    rcases Int.lt_or_le z 0 with h | h
    · have e : itoa z = 45 :: decDigits z.natAbs := itoa_off h
      have e2 : plusL (itoa z) ++ itoa z = 45 :: decDigits z.natAbs := by rw [e]; rfl
      rw [e2]
      refine ⟨?_, ?_⟩
      · rw [sg_sign (.inr rfl)]
        exact (okD_iff _).2 ⟨dec_digs _, dec_ne _⟩
      · unfold sv
        rw [sg_sign (.inr rfl), if_pos (show (([45] : List UInt8) == [45]) = true by decide), dec_val]
        omega
    · have e : itoa z = decDigits z.natAbs := itoa_of h
      obtain ⟨x, r, e', hx⟩ := dec_no45 z.natAbs
      have e2 : plusL (itoa z) ++ itoa z = 43 :: decDigits z.natAbs := by
        unfold plusL
        rw [e, if_neg]
        · rfl
        · rw [e']; simp [hx]
      rw [e2]
      refine ⟨?_, ?_⟩
      · rw [sg_sign (.inl rfl)]
        exact (okD_iff _).2 ⟨dec_digs _, dec_ne _⟩
      · unfold sv
        rw [sg_sign (.inl rfl), if_neg (show ¬ (([43] : List UInt8) == [45]) = true by decide), dec_val]
        omega
  have := Tail.pow _ key.1
  rw [key.2] at this
  exact this
end Go.Proofs.YtbjlcipamdgnjaaDoor.NumSpec
