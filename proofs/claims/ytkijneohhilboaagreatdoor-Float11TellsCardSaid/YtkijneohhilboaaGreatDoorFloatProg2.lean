/- Decimals of the old schema: the program's read, Form, Is and Of tell the reference's decimal. No conditions but sizes. -/
import Derived.Test.YtkijneohhilboaaGreatDoorFloatProg
namespace Go.Proofs.YtkijneohhilboaaGreatDoor.FloatSpec
set_option linter.unusedSimpArgs false
set_option linter.unusedVariables false
open Go.RowKit Go.Lib Go.Proofs.YtkijneohhilboaaGreatDoor.Room Go.Proofs.YtkijneohhilboaaGreatDoor.PT Go.Proofs.YtkijneohhilboaaGreatDoorW.PrintWords Go.Proofs.YtkijneohhilboaaGreatDoor.Aid Go.Proofs.YtkijneohhilboaaGreatDoor.Num Go.Proofs.YtkijneohhilboaaGreatDoor.BigFns Go.Proofs.YtkijneohhilboaaGreatDoor.BigQ Go.Proofs.YtkijneohhilboaaGreatDoor.RefBig Go.Proofs.YtkijneohhilboaaGreatDoor.DecSpec Go.Proofs.YtkijneohhilboaaGreatDoor.NumSpec Go.Proofs.YtkijneohhilboaaGreatDoor.IntSpec Go.Proofs.YtkijneohhilboaaGreatDoor.FSix
/-- the whole part, by what is ahead of the first sign that is neither a digit nor _ -/
def scanW (g v : List UInt8) : Option (List UInt8 × Int) := match v with
  | [] => some (sift g, 1)
  | c :: v' => if c = 58 then (sixW (cols v') (val (sift g))).map fun n => (decDigits n, 3) else none
theorem isG_dig {x : UInt8} (h : isG x = true) : x = 95 ∨ digV x < 10 := by
  unfold isG at h
  rcases Bool.or_eq_true _ _ ▸ h with q | q
  · exact .inr (digV10 q)
  · exact .inl (beq_iff_eq.1 q)
theorem okG_all {g : List UInt8} (hg : ∀ x ∈ g, isG x = true) : okG 10 g = true := by
  unfold okG
  rw [List.all_eq_true]
  intro x hx
  rcases isG_dig (hg x hx) with q | q
  · rw [q]; rfl
  · rw [decide_eq_true q, Bool.or_true]
theorem isG_not {c : UInt8} (h : isG c = false) (r : List UInt8) : okG 10 (c :: r) = false := by
  unfold isG at h
  rw [Bool.or_eq_false_iff] at h
  have h95 : c ≠ 95 := beq_eq_false_iff_ne.1 h.2
  have hd : ¬ (48 ≤ c.toNat ∧ c.toNat ≤ 57) := of_decide_eq_false h.1
  have hv : ¬ digV c < 10 := fun q => by
    unfold digV at q
    rw [if_neg hd] at q
    split at q
    · omega
    · split at q <;> omega
  rw [okG_cons, beq_eq_false_iff_ne.2 h95, decide_eq_false hv]; rfl
theorem whole_scan {x : UInt8} (hx : 48 ≤ x.toNat ∧ x.toNat ≤ 57) (g' v : List UInt8) (hg : ∀ y ∈ g', isG y = true) (hv : v = [] ∨ ∃ c v', v = c :: v' ∧ isG c = false) : whole11 (x :: (g' ++ v)) = scanW (x :: g') v := by
  have hf : firstD (x :: (g' ++ v)) = true := decide_eq_true hx
  have h58 : 58 ∉ g' := fun q => absurd (hg 58 q) (by decide)
  unfold whole11
  rw [if_pos hf, bareL_dig hx, okG_append, okG_all hg, Bool.true_and]
  rcases hv with rfl | ⟨c, v', rfl, hc⟩
  · rw [if_pos (show okG 10 [] = true from rfl), List.append_nil]
    show some (x :: sift g', (1 : Int)) = some (sift (x :: g'), 1)
    rw [sift_dig hx]
  · rw [isG_not hc, if_neg Bool.false_ne_true]
    show (six (x :: (g' ++ c :: v'))).map (fun n => (decDigits n, (3 : Int))) = if c = 58 then _ else none
    by_cases h : c = 58
    · subst h
      rw [if_pos rfl, six_of hx rfl h58, if_pos (okG_all hg), sift_dig hx]
    · rw [if_neg h]
      rcases span58 (g' ++ c :: v') with ⟨q, _⟩ | ⟨p, q, e, hp, _, _⟩
      · rw [six_none hx q]; rfl
      · rw [six_of hx e hp, if_neg]
        · rfl
        · intro hok
          rcases List.append_eq_append_iff.1 e with ⟨a', h1, h2⟩ | ⟨a', h1, h2⟩
          · match a' with
            | [] => exact h (List.cons.inj h2).1
            | z :: a' =>
              rw [h1, ← (List.cons.inj h2).1, okG_append, isG_not hc, Bool.and_false] at hok
              cases hok
          · match a' with
            | [] => exact h (List.cons.inj h2).1.symm
            | z :: a' => exact h58 (by rw [h1, ← (List.cons.inj h2).1]; simp)
/-- what is read, a sign taken off -/
def bodyR (neg : Bool) (t : List UInt8) : F5 := match cut46 t with
  | none => zeroR
  | some (w, rest) => if w = [] then endR 2 neg [] rest else match whole11 w with
    | some (_, form) => endR form neg w rest
    | none => zeroR
theorem cut46_app (g : List UInt8) (h : 46 ∉ g) (q : List UInt8) : cut46 (g ++ q) = (cut46 q).map fun p => (g ++ p.1, p.2) := by
  induction g with
  | nil => rw [List.nil_append]; cases cut46 q <;> rfl
  | cons x g ih =>
    have hx : ¬ x = 46 := fun e => h (by simp [e])
    rw [List.cons_append, cut46, if_neg hx, ih (fun q => h (by simp [q]))]
    cases cut46 q <;> rfl
theorem scan_form {g v : List UInt8} {d : List UInt8} {form : Int} (h : scanW g v = some (d, form)) : (v = [] ∧ form = 1) ∨ (∃ v', v = 58 :: v' ∧ (cols v').all okPart = true ∧ form = 3) := by
  unfold scanW at h
  match v with
  | [] => exact .inl ⟨rfl, (Prod.mk.inj (Option.some.inj h)).2.symm⟩
  | c :: v' =>
    dsimp only at h
    split at h
    · rename_i hc
      obtain ⟨n, hn, e⟩ := Option.map_eq_some_iff.1 h
      have := sixW_some (cols v') (val (sift g))
      rw [hn] at this
      exact .inr ⟨v', by rw [hc], this.symm, (Prod.mk.inj e).2.symm⟩
    · cases h
theorem scan_none {g v : List UInt8} (h : scanW g v = none) : ∃ c v', v = c :: v' ∧ ¬ (c = 58 ∧ (cols v').all okPart = true) := by
  unfold scanW at h
  match v with
  | [] => cases h
  | c :: v' =>
    refine ⟨c, v', rfl, fun q => ?_⟩
    dsimp only at h
    rw [if_pos q.1] at h
    have hs := sixW_some (cols v') (val (sift g))
    rw [q.2] at hs
    cases hn : sixW (cols v') (val (sift g)) with
    | none => rw [hn] at hs; cases hs
    | some n => rw [hn] at h; cases h
theorem read_j1 (t : List UInt8) (ht : t.length ≤ 800) (s neg : Bool) (k : Nat) (hk : 5000 ≤ k) :
    float11_read.j1 k (txt t) s 0 0 neg (⟨#[]⟩ : ByteArray) (⟨#[]⟩ : ByteArray) (⟨#[48]⟩ : ByteArray) = some (if infW t = true then (4, neg, ⟨#[]⟩, ⟨#[]⟩, ⟨#[48]⟩) else if nanW t = true ∧ s = false then (5, neg, ⟨#[]⟩, ⟨#[]⟩, ⟨#[48]⟩) else bodyR neg t) := by
  obtain ⟨k, rfl⟩ : ∃ j, k = j + 2 := ⟨k - 2, by omega⟩
  simp only [float11_read.j1]
  rw [word11_eq t s _ (by omega), Option.bind_some]
  by_cases hi : infW t = true
  · rw [if_pos hi, if_pos hi]; rfl
  · rw [if_neg hi, if_neg hi]
    by_cases hn : nanW t = true ∧ s = false
    · rw [if_pos hn, if_pos hn]; rfl
    · rw [if_neg hn, if_neg hn, if_neg (by decide), txt_toList, txt_size]
      match t with
      | [] => rw [if_pos rfl]; rfl
      | x :: r =>
        rw [if_neg (List.cons_ne_nil _ _), if_pos (by simp only [List.length_cons]; omega), bt_head]
        by_cases h46 : x = 46
        · subst h46
          rw [List.length_cons] at ht
          have hb : bodyR neg (46 :: r) = endR 2 neg [] r := rfl
          obtain ⟨c1, c2, c3, c4⟩ := cut_rest [] r
          rw [List.nil_append] at c1 c2
          have hn := tw_len' isG r
          have T := Trim_eq (r.takeWhile isG) (by omega)
          have B := trim_beq (r.takeWhile isG)
          have J := read_j2 2 neg (txt []) (txt (r.takeWhile isG)) (r.dropWhile isG) (by omega) (k + 1) (by omega)
          have Jt := read_j2t (txt (r.dropWhile isG)) 2 neg (txt []) (txt (r.takeWhile isG)) (⟨#[48]⟩ : ByteArray) k
          have R := row11_eq r (by omega) (k + 1) (by omega)
          have w1 : wrap64 ((0 : Int) + 1) = 1 := by rw [wrap_id (by decide) (by decide)]; rfl
          rw [txt_size] at c2
          rw [if_pos (show ((46 : UInt8).toNat : Int) = 46 from rfl), hb, endR_tail, w1, show (1 : Int).toNat = [].length + 1 from rfl, show (0 : Int).toNat = ([] : List UInt8).length from rfl, c1, c2, R, if_pos (Int.le_refl 0), if_pos (by omega), if_pos (by decide), if_pos (by simp only [List.length_cons]; omega), Option.bind_some, Int.toNat_natCast, c3, c4, T, Option.bind_some, B, txt_size, if_pos (by omega), if_pos (by omega), if_pos trivial]
          by_cases hs : sift (r.takeWhile isG) = []
          · rw [decide_eq_true hs, Jt, if_pos ⟨rfl, hs⟩]
          · rw [decide_eq_false hs, J, if_neg (fun q => hs q.2)]
        · rw [if_neg (show ¬ (x.toNat : Int) = 46 from nez (n := 46) (by omega) h46), digit11_eq, Option.bind_some]
          cases hd : isD x with
          | false =>
            rw [if_neg Bool.false_ne_true]
            congr 1
            unfold bodyR
            rw [cut46, if_neg h46]
            cases cut46 r with
            | none => rfl
            | some p =>
              obtain ⟨w, rest⟩ := p
              show zeroR = if x :: w = [] then _ else match whole11 (x :: w) with | some (_, form) => endR form neg (x :: w) rest | none => zeroR
              rw [if_neg (List.cons_ne_nil _ _), show whole11 (x :: w) = none by unfold whole11; rw [if_neg (show ¬ firstD (x :: w) = true by show ¬ isD x = true; rw [hd]; decide)]]
          | true =>
            have hx : 48 ≤ x.toNat ∧ x.toNat ≤ 57 := (isD_iff x).1 hd
            have hxG : isG x = true := by unfold isG; rw [hd]; rfl
            rw [if_pos rfl, row11_eq (x :: r) (by omega) _ (by omega), Option.bind_some]
            obtain ⟨g', hg'⟩ : ∃ g', g' = r.takeWhile isG := ⟨_, rfl⟩
            obtain ⟨q, hq⟩ : ∃ q, q = r.dropWhile isG := ⟨_, rfl⟩
            have hr : r = g' ++ q := by rw [hg', hq, List.takeWhile_append_dropWhile]
            have hgG : ∀ y ∈ g', isG y = true := fun y hy => by rw [hg'] at hy; exact List.all_eq_true.1 (List.all_takeWhile (p := isG) (l := r)) y hy
            have hqh : q = [] ∨ ∃ c q', q = c :: q' ∧ isG c = false := by
              cases hh : q with
              | nil => exact .inl rfl
              | cons c q' =>
                refine .inr ⟨c, q', rfl, ?_⟩
                have := List.head?_dropWhile_not isG r
                rw [← hq, hh] at this
                simpa using this
            have htw : (x :: r).takeWhile isG = x :: g' := by rw [List.takeWhile_cons, hxG, if_pos rfl, hg']
            have h46g : 46 ∉ x :: g' := fun z => by
              rcases List.mem_cons.1 z with e | e
              · exact h46 e.symm
              · exact absurd (hgG 46 e) (by decide)
            have hcut : cut46 (x :: r) = (cut46 q).map fun p => ((x :: g') ++ p.1, p.2) := by
              rw [hr, ← List.cons_append]; exact cut46_app _ h46g q
            rw [htw]
            have hlen : r.length = g'.length + q.length := by rw [hr, List.length_append]
            rw [List.length_cons] at ht
            cases hc : cut46 q with
            | none =>
              have hb : bodyR neg (x :: r) = zeroR := by unfold bodyR; rw [hcut, hc]; rfl
              have := read_l0 neg (x :: r) (by rw [List.length_cons]; omega) q.length q [] (x :: g') 1 (k + 1) (Nat.le_refl _) (cut46_none hc) (.inl rfl) (by rw [List.append_nil, hr]; rfl) (by omega)
              rw [this, hb]
              congr 1
              split
              · rfl
              · split <;> rfl
            | some p =>
              obtain ⟨v, rest⟩ := p
              obtain ⟨e, hv46⟩ := cut46_some hc
              have hvh : v = [] ∨ ∃ c v', v = c :: v' ∧ isG c = false := by
                match v with
                | [] => exact .inl rfl
                | c :: v' =>
                  rcases hqh with h0 | ⟨c', q', h0, h1⟩
                  · rw [h0] at e; cases e
                  · rw [h0] at e
                    have := (List.cons.inj (show c' :: q' = c :: (v' ++ 46 :: rest) from e)).1
                    exact .inr ⟨c, v', rfl, by rw [← this]; exact h1⟩
              have hvl : v.length ≤ q.length := by rw [e, List.length_append]; omega
              have := read_l0 neg (x :: r) (by rw [List.length_cons]; omega) q.length v (46 :: rest) (x :: g') 1 (k + 1) hvl hv46 (.inr ⟨rest, rfl⟩) (by rw [← e, hr]; rfl) (by omega)
              rw [this]
              congr 1
              have hb : bodyR neg (x :: r) = match scanW (x :: g') v with | some (_, form) => endR form neg (x :: g' ++ v) rest | none => zeroR := by
                unfold bodyR
                rw [hcut, hc]
                show (if x :: g' ++ v = [] then _ else match whole11 (x :: (g' ++ v)) with | some (_, form) => endR form neg (x :: g' ++ v) rest | none => zeroR) = _
                rw [if_neg (by simp), whole_scan hx g' v hgG hvh]
              rw [hb]
              cases hs : scanW (x :: g') v with
              | none =>
                obtain ⟨c, v', rfl, hno⟩ := scan_none hs
                dsimp only
                rw [if_neg hno]
              | some df =>
                obtain ⟨d, form⟩ := df
                rcases scan_form hs with ⟨rfl, rfl⟩ | ⟨v', rfl, ha, rfl⟩
                · dsimp only
                  rw [List.append_nil]; rfl
                · dsimp only
                  rw [if_pos ⟨rfl, ha⟩]; rfl
/-- what is read -/
def rdS (l : List UInt8) : F5 :=
  if infW (sg l).2 = true then (4, (sg l).1 == [45], ⟨#[]⟩, ⟨#[]⟩, ⟨#[48]⟩) else
  if nanW (sg l).2 = true ∧ (sg l).1 = [] then (5, (sg l).1 == [45], ⟨#[]⟩, ⟨#[]⟩, ⟨#[48]⟩) else bodyR ((sg l).1 == [45]) (sg l).2
theorem read_eq (l : List UInt8) (hl : l.length ≤ 800) (k : Nat) (hk : 5010 ≤ k) : float11_read.f k (txt l) = some (rdS l) := by
  obtain ⟨k, rfl⟩ : ∃ j, k = j + 2 := ⟨k - 2, by omega⟩
  have no : ∀ l' : List UInt8, l'.length ≤ 800 → sg l' = ([], l') → float11_read.j0 (k + 2) (txt l') false 0 false (⟨#[]⟩ : ByteArray) (⟨#[]⟩ : ByteArray) (⟨#[48]⟩ : ByteArray) = some (rdS l') := fun l' hl' hs => by
    simp only [float11_read.j0, Bool.false_eq_true, if_false]
    rw [read_j1 l' hl' false false _ (by omega)]
    unfold rdS
    rw [hs]
    simp only [and_true]
    rfl
  unfold float11_read.f
  rw [txt_toList]
  match l with
  | [] => rw [if_pos rfl]; exact no [] (by simp) rfl
  | x :: r =>
    rw [if_neg (List.cons_ne_nil _ _), txt_size, if_pos (by simp only [List.length_cons]; omega), bt_head]
    rw [List.length_cons] at hl
    have yes : (x = 43 ∨ x = 45) → float11_read.j0 (k + 2) (txt (x :: r)) true 0 false (⟨#[]⟩ : ByteArray) (⟨#[]⟩ : ByteArray) (⟨#[48]⟩ : ByteArray) = some (rdS (x :: r)) := fun hx => by
      have hc : (txt (x :: r)).extract 1 (txt (x :: r)).size = txt r := by
        apply ext_list; rw [extract_end, txt_list, txt_list]; rfl
      have hb : ((x.toNat : Int) == 45) = (([x] : List UInt8) == [45]) := by rcases hx with rfl | rfl <;> decide
      simp only [float11_read.j0, if_true]
      rw [hc, bt_head, txt_size, if_pos (by simp only [List.length_cons]; omega), if_pos (by simp only [List.length_cons]; omega), read_j1 r (by omega) true _ _ (by omega)]
      unfold rdS
      rw [sg_sign hx, hb]
      dsimp only
      congr 1
      by_cases hi : infW r = true
      · rw [if_pos hi, if_pos hi]
      · rw [if_neg hi, if_neg hi, if_neg (fun q => Bool.noConfusion q.2), if_neg (fun q => List.cons_ne_nil _ _ q.2)]
    by_cases h43 : x = 43
    · rw [if_pos (by rw [h43]; rfl)]; exact yes (.inl h43)
    · rw [if_neg (show ¬ (x.toNat : Int) = 43 from nez (n := 43) (by omega) h43)]
      by_cases h45 : x = 45
      · rw [show ((x.toNat : Int) == 45) = true by rw [h45]; rfl]; exact yes (.inr h45)
      · rw [show ((x.toNat : Int) == 45) = false from beq_eq_false_iff_ne.2 (nez (n := 45) (by omega) h45)]
        exact no (x :: r) (by rw [List.length_cons]; omega) (by unfold sg; dsimp only; rw [if_neg (by rintro (e | e); exact h43 e; exact h45 e)])
/-! ### the whole part's number -/
theorem small11_l1 (P : List UInt8) (hP : P.length ≤ 2) (hd : Digs P) (N : ByteArray) (X : List ByteArray) (xl i : Int) (R : Option ByteArray) (M : Nat) (hR : ∀ k, M ≤ k → ((big_MulAdd.f k N 60 (val P)).bind fun t167 => (float11_whole.l0 k t167 X xl (wrap64 (i + 1)))) = R) :
    ∀ (r a : List UInt8) (k : Nat), a ++ r = P → M + r.length + 1 ≤ k → float11_whole.l1 k N (txt P) (val a : Int) X xl i ((txt P).size : Int) (a.length : Int) = R
  | [], a, k, h, hk => by
    obtain ⟨k, rfl⟩ : ∃ q, k = q + 1 := ⟨k - 1, by omega⟩
    rw [List.append_nil] at h
    subst h
    simp only [float11_whole.l1]
    rw [txt_size, if_neg (by omega)]
    exact hR k (by simp at hk; omega)
  | x :: r, a, k, h, hk => by
    obtain ⟨k, rfl⟩ : ∃ q, k = q + 1 := ⟨k - 1, by omega⟩
    have hl : P.length = a.length + (r.length + 1) := by rw [← h, List.length_append, List.length_cons]
    rw [List.length_cons] at hk
    have hx : isDig x := hd x (by rw [← h]; simp)
    have hb : bt (txt P) (a.length : Int) = (x.toNat : Int) := by rw [← h]; exact bt_mid a x r
    have hv := val_lt a (fun y hy => hd y (by rw [← h]; simp [hy]))
    have ha : (10 : Nat) ^ a.length ≤ 10 ^ 2 := Nat.pow_le_pow_right (by decide) (by omega)
    have h100 : (10 : Nat) ^ 2 = 100 := by decide
    have hdx : ((x.toNat : Int) - 48) % 256 = (dv x : Int) := by have := hx.1; have := hx.2; unfold dv; omega
    have hdl := dv_lt hx
    have := small11_l1 P hP hd N X xl i R M hR r (a ++ [x]) k (by rw [← h]; simp) (by omega)
    rw [val_snoc, List.length_append, List.length_singleton, txt_size] at this
    simp only [float11_whole.l1]
    rw [txt_size, if_pos (by omega), if_pos (by omega), if_pos (by omega), hb, hdx, wrap_id (x := 10 * (val a : Int)) (by omega) (by omega), wrap_id (x := 10 * (val a : Int) + (dv x : Int)) (by omega) (by omega), wrap_id (by omega) (by omega)]
    rw [show 10 * (val a : Int) + (dv x : Int) = ((dv x + 10 * val a : Nat) : Int) by omega, show (a.length : Int) + 1 = ((a.length + 1 : Nat) : Int) by omega]
    exact this
theorem whole_j1 (X : List (List UInt8)) (hX : ∀ p ∈ X, okPart p = true) (hl : X.length ≤ 101) (i n : Nat) (hi : i < X.length) (hn : (decDigits n).length ≤ 400) (R : Option ByteArray) (M : Nat) (hM : 2000 ≤ M) (hR : ∀ k, M ≤ k → float11_whole.l0 k (num ((n * 60 + val X[i] : Nat) : Int)) (X.map txt) (X.length : Int) ((i + 1 : Nat) : Int) = R) (k : Nat) (hk : M + 4 ≤ k) :
    float11_whole.j1 k (num (n : Int)) (txt X[i]) (X.map txt) (X.length : Int) (i : Int) = R := by
  obtain ⟨k, rfl⟩ : ∃ q, k = q + 1 := ⟨k - 1, by omega⟩
  have hp := hX X[i] (List.getElem_mem hi)
  have hd := okPart_digs hp
  have h2 := okPart_len hp
  have hv := val_lt X[i] hd.1
  have ha : (10 : Nat) ^ X[i].length ≤ 10 ^ 2 := Nat.pow_le_pow_right (by decide) h2
  have h100 : (10 : Nat) ^ 2 = 100 := by decide
  simp only [float11_whole.j1]
  refine small11_l1 X[i] h2 hd.1 (num (n : Int)) (X.map txt) (X.length : Int) (i : Int) R M (fun k hk => ?_) X[i] [] k rfl (by omega)
  rw [bigMulAdd n (val X[i]) (by omega) hn k (by omega), Option.bind_some, wrap_id (by omega) (by omega)]
  exact hR k hk
theorem whole_l0 (X : List (List UInt8)) (hX : ∀ p ∈ X, okPart p = true) (hl : X.length ≤ 101) : ∀ (d i n m k : Nat), i + d = X.length → 0 < i → n < 10 ^ (101 + 2 * i) → sixW (X.drop i) n = some m → 3000 + 5 * d + 1 ≤ k →
    float11_whole.l0 k (num (n : Int)) (X.map txt) (X.length : Int) (i : Int) = some (num (m : Int))
  | 0, i, n, m, k, hi, h0, hn, hs, hk => by
    obtain ⟨k, rfl⟩ : ∃ q, k = q + 1 := ⟨k - 1, by omega⟩
    rw [List.drop_eq_nil_of_le (by omega)] at hs
    obtain rfl := Option.some.inj (show some n = some m from hs)
    simp only [float11_whole.l0]
    rw [if_neg (by omega)]
  | d + 1, i, n, m, k, hi, h0, hn, hs, hk => by
    obtain ⟨k, rfl⟩ : ∃ q, k = q + 1 := ⟨k - 1, by omega⟩
    have hlt : i < X.length := by omega
    have hd : (decDigits n).length ≤ 400 := by rw [decDigits_length]; exact Nat.le_trans (nDigits_le (100 + 2 * i) n (by rw [show 100 + 2 * i + 1 = 101 + 2 * i by omega]; exact hn)) (by omega)
    have hp := hX X[i] (List.getElem_mem hlt)
    rw [List.drop_eq_getElem_cons hlt] at hs
    unfold sixW at hs
    rw [if_pos hp] at hs
    have hr : rdOf ByteArray.empty (X.map txt) (i : Int) = txt X[i] := by
      unfold rdOf
      rw [Int.toNat_natCast, List.getD_eq_getElem?_getD, List.getElem?_map, List.getElem?_eq_getElem hlt]; rfl
    have hv := val_lt X[i] (okPart_digs hp).1
    have ha : (10 : Nat) ^ X[i].length ≤ 10 ^ 2 := Nat.pow_le_pow_right (by decide) (okPart_len hp)
    have h100 : (10 : Nat) ^ 2 = 100 := by decide
    have hpw : (10 : Nat) ^ (101 + 2 * (i + 1)) = 10 ^ (101 + 2 * i) * 100 := by rw [show 101 + 2 * (i + 1) = 101 + 2 * i + 2 by omega, Nat.pow_add, h100]
    simp only [float11_whole.l0]
    rw [if_pos (by omega), if_pos (by omega), if_pos (by rw [List.length_map]; omega), if_neg (by omega), hr]
    exact whole_j1 X hX hl i n hlt hd _ (3000 + 5 * d + 1) (by omega) (fun k hk => whole_l0 X hX hl d (i + 1) (n * 60 + val X[i]) m k (by omega) (by omega) (by rw [hpw]; omega) hs hk) k (by omega)
theorem whole_f1 (w : List UInt8) (hw : w.length ≤ 1000) (h58 : 58 ∉ w) (k : Nat) (hk : 5 ≤ k) : float11_whole.f k (txt w) = some (txt w) := by
  obtain ⟨k, rfl⟩ : ∃ q, k = q + 1 := ⟨k - 1, by omega⟩
  unfold float11_whole.f
  rw [Split_eq w (by omega), (cols_head w).1 h58, Option.bind_some, if_pos (by simp), if_pos (by simp), Option.bind_some]
  show float11_whole.l0 (k + 1) (rdOf ByteArray.empty [txt w] 0) [] (([] : List ByteArray).length : Int) 0 = _
  simp only [float11_whole.l0]
  rw [if_neg (by decide)]
  rfl
theorem whole_f3 (p q : List UInt8) (hp : Digs p) (hpn : p ≠ []) (hl : p.length + q.length ≤ 100) (ha : (cols q).all okPart = true) (n : Nat) (hn : sixW (cols q) (val p) = some n) (k : Nat) (hk : 5000 ≤ k) : float11_whole.f k (txt (p ++ 58 :: q)) = some (num (n : Int)) := by
  obtain ⟨k, rfl⟩ : ∃ q, k = q + 1 := ⟨k - 1, by omega⟩
  have h58 : 58 ∉ p := fun z => absurd (show 48 ≤ (58 : UInt8).toNat ∧ (58 : UInt8).toNat ≤ 57 from hp 58 z) (by decide)
  have hcl := cols_len q
  unfold float11_whole.f
  rw [Split_eq (p ++ 58 :: q) (by rw [List.length_append, List.length_cons]; omega), (cols_head _).2 p q rfl h58, Option.bind_some, List.map_cons, List.length_cons, if_pos (by omega), if_pos (by omega), Option.bind_some, List.drop_succ_cons, List.drop_zero]
  show float11_whole.l0 (k + 1) (txt p) ((cols q).map txt) (((cols q).map txt).length : Int) 0 = _
  have hX : ∀ p ∈ cols q, okPart p = true := List.all_eq_true.1 ha
  obtain ⟨X, hXe⟩ : ∃ X, cols q = X := ⟨_, rfl⟩
  rw [hXe] at hX hn hcl ⊢
  have hX0 : 0 < X.length := by rw [← hXe]; exact List.length_pos_iff.2 (cols_ne q)
  have hr : rdOf ByteArray.empty (X.map txt) 0 = txt X[0] := by
    unfold rdOf
    rw [show (0 : Int).toNat = 0 from rfl, List.getD_eq_getElem?_getD, List.getElem?_map, List.getElem?_eq_getElem hX0]; rfl
  have hv := val_lt p hp
  have hpp : (10 : Nat) ^ p.length ≤ 10 ^ 100 := Nat.pow_le_pow_right (by decide) (by omega)
  have hd : (decDigits (val p)).length ≤ 400 := by rw [decDigits_length]; exact Nat.le_trans (nDigits_le 99 (val p) (by omega)) (by decide)
  have h0 := hX X[0] (List.getElem_mem hX0)
  have hv0 := val_lt X[0] (okPart_digs h0).1
  have ha0 : (10 : Nat) ^ X[0].length ≤ 10 ^ 2 := Nat.pow_le_pow_right (by decide) (okPart_len h0)
  have h100 : (10 : Nat) ^ 2 = 100 := by decide
  have hb : (10 : Nat) ^ (101 + 2 * (0 + 1)) = 10 ^ 103 := rfl
  have hb' : (10 : Nat) ^ 100 * 100 ≤ 10 ^ 103 := by decide +kernel
  have hs : sixW (X.drop 1) (val p * 60 + val X[0]) = some n := by
    have e : X = X[0] :: X.drop 1 := by
      have := List.drop_eq_getElem_cons hX0
      rw [List.drop_zero] at this
      exact this
    rw [e] at hn
    unfold sixW at hn
    rw [if_pos h0] at hn
    exact hn
  rw [List.length_map]
  simp only [float11_whole.l0]
  rw [if_pos (by omega), if_pos (Int.le_refl 0), if_pos (by rw [List.length_map]; omega), if_pos trivial, Norm_any false p (by omega) k (by omega), (okD_iff _).2 ⟨hp, hpn⟩, if_pos rfl, if_neg Bool.false_ne_true, Option.bind_some, hr]
  exact whole_j1 X hX (by omega) 0 (val p) hX0 hd _ 4000 (by omega) (fun k hk => whole_l0 X hX (by omega) (X.length - 1) 1 _ n k (by omega) (by omega) (by rw [show 101 + 2 * 1 = 103 from rfl]; omega) hs (by omega)) k (by omega)
theorem clean_eq (l : List UInt8) (hl : l.length ≤ 1000000) : float11_Of_1.f (txt l) = some (txt (sift l)) := by
  unfold float11_Of_1.f
  rw [Replace_eq l hl]; rfl
theorem whole_clean {w d : List UInt8} {form : Int} (hw : w.length ≤ 99) (h : whole11 w = some (d, form)) (k : Nat) (hk : 5000 ≤ k) : float11_whole.f k (txt (sift w)) = some (txt d) := by
  have hf : firstD w = true := by
    cases hf : firstD w with
    | true => rfl
    | false => unfold whole11 at h; rw [hf, if_neg Bool.false_ne_true] at h; cases h
  obtain ⟨x, r, rfl⟩ : ∃ x r, w = x :: r := by
    match w with
    | [] => cases hf
    | x :: r => exact ⟨x, r, rfl⟩
  have hx : 48 ≤ x.toNat ∧ x.toNat ≤ 57 := of_decide_eq_true hf
  have hsl := sift_len (x :: r)
  rw [List.length_cons] at hw hsl
  unfold whole11 at h
  rw [if_pos hf] at h
  cases hb : bareL 10 (x :: r) with
  | some e =>
    rw [hb] at h
    obtain ⟨rfl, rfl⟩ := Prod.mk.inj (Option.some.inj (show some (e, (1 : Int)) = some (d, form) from h))
    obtain ⟨e1, e2, e3, e4⟩ := bareL_ok hb
    rw [← e1] at hsl ⊢
    exact whole_f1 e (by omega) (fun z => absurd (show 48 ≤ (58 : UInt8).toNat ∧ (58 : UInt8).toNat ≤ 57 from goodB_digs e4 58 z) (by decide)) k (by omega)
  | none =>
    rw [hb] at h
    obtain ⟨n, hn, e⟩ := Option.map_eq_some_iff.1 (show (six (x :: r)).map (fun n => (decDigits n, (3 : Int))) = some (d, form) from h)
    obtain ⟨rfl, rfl⟩ := Prod.mk.inj e
    rcases span58 r with ⟨q, _⟩ | ⟨p, q, e, hp, _, _⟩
    · rw [six_none hx q] at hn; cases hn
    · rw [six_of hx e hp] at hn
      split at hn
      · rename_i hok
        have hall := sixW_some (cols q) (val (x :: sift p))
        rw [hn] at hall
        have hq95 : 95 ∉ q := parts_no95 hall.symm
        have hg : bareL 10 (x :: p) = some (x :: sift p) := by rw [bareL_dig hx, if_pos hok]
        have hdig := goodB_digs (bareL_ok hg).2.2.2
        have hs : sift (x :: r) = (x :: sift p) ++ 58 :: q := by
          rw [sift_dig hx, e, sift_append, sift_cons, if_neg (by decide), sift_no hq95]; rfl
        have hpl := sift_len p
        have hrl : r.length = p.length + (q.length + 1) := by rw [e, List.length_append, List.length_cons]
        rw [hs, whole_f3 (x :: sift p) q hdig (List.cons_ne_nil _ _) (by rw [List.length_cons]; omega) hall.symm n hn k hk, num_nat]
      · cases hn
/-- the answer's form -/
theorem endR_form (form : Int) (neg : Bool) (w rest : List UInt8) (h0 : form ≠ 0) : (endR form neg w rest).1 = 0 ∨ (endR form neg w rest).1 = form := by
  unfold endR
  cases expo11 (rest.dropWhile isG) with
  | none => exact .inl rfl
  | some z =>
    dsimp only
    split
    · exact .inl rfl
    · split
      · exact .inl rfl
      · exact .inr rfl
def ofD (d : D6) : D5 := (d.1, d.2.1, d.2.2.1, d.2.2.2.1, decide (d.2.2.2.2 > 0))
theorem makeN_ok (neg : Bool) (l : List UInt8) (z : Int) : ∀ form : Int, form > 0 → ofD (six5 (makeN neg l z) form) = makeN neg l z := fun form h => by
  unfold ofD six5 makeN
  split <;> (dsimp only; rw [decide_eq_true h])
/-- what Of makes of what is read -/
def ofK (k : Nat) (r : F5) : Option D5 := if r.1 = 0 then (some (0, false, (⟨#[]⟩ : ByteArray), (⟨#[]⟩ : ByteArray), false)) else (if r.1 = 4 then (some (1, r.2.1, (⟨#[]⟩ : ByteArray), (⟨#[]⟩ : ByteArray), true)) else (if r.1 = 5 then (some (2, false, (⟨#[]⟩ : ByteArray), (⟨#[]⟩ : ByteArray), true)) else ((float11_Of_1.f r.2.2.1).bind fun t175 => ((float11_whole.f k t175).bind fun t176 => ((float11_Of_1.f r.2.2.2.1).bind fun t177 => ((dec_Make.f k r.2.1 t176 t177 r.2.2.2.2).bind fun bt178 => (some (bt178.1, bt178.2.1, bt178.2.2.1, bt178.2.2.2.1, bt178.2.2.2.2))))))))
/-- what is behind a point, and its decimal -/
theorem end_of (neg : Bool) (w rest d : List UInt8) (form : Int) (hl : w.length + rest.length ≤ 99) (hform : form = 1 ∨ form = 2 ∨ form = 3) (hd : Digs d) (hdl : d.length ≤ 1000) (h2 : form = 2 ↔ d = []) (k : Nat) (hk : 12000 ≤ k) (hW : float11_whole.f k (txt (sift w)) = some (txt d)) (D : D6)
    (hD : D = match expo11 (rest.dropWhile isG) with | none => zero6 | some z => if form = 2 ∧ sift (rest.takeWhile isG) = [] then zero6 else if form = 3 ∧ rest.dropWhile isG ≠ [] then zero6 else six5 (makeN neg (d ++ sift (rest.takeWhile isG)) (z - (sift (rest.takeWhile isG)).length)) form) :
    (endR form neg w rest).1 = D.2.2.2.2 ∧ ofK k (endR form neg w rest) = some (ofD D) := by
  have hn := tw_len' isG rest
  have hsl := sift_len (rest.takeWhile isG)
  have zz : endR form neg w rest = zeroR → D = zero6 → (endR form neg w rest).1 = D.2.2.2.2 ∧ ofK k (endR form neg w rest) = some (ofD D) := fun a b => by
    rw [a, b]; exact ⟨rfl, rfl⟩
  cases he : expo11 (rest.dropWhile isG) with
  | none =>
    rw [he] at hD
    exact zz (by unfold endR; rw [he]) hD
  | some z =>
    rw [he] at hD
    dsimp only at hD
    by_cases c1 : form = 2 ∧ sift (rest.takeWhile isG) = []
    · rw [if_pos c1] at hD
      exact zz (by unfold endR; rw [he]; dsimp only; rw [if_pos c1]) hD
    · rw [if_neg c1] at hD
      by_cases c2 : form = 3 ∧ rest.dropWhile isG ≠ []
      · rw [if_pos c2] at hD
        exact zz (by unfold endR; rw [he]; dsimp only; rw [if_neg c1, if_pos c2]) hD
      · rw [if_neg c2] at hD
        have hE : endR form neg w rest = (form, neg, txt w, txt (rest.takeWhile isG), num z) := by unfold endR; rw [he]; dsimp only; rw [if_neg c1, if_neg c2]
        have hez := expo11_len he
        have hne : d ++ sift (rest.takeWhile isG) ≠ [] := fun q => by
          obtain ⟨q1, q2⟩ := List.append_eq_nil_iff.1 q
          exact c1 ⟨h2.2 q1, q2⟩
        rw [hE, hD]
        refine ⟨rfl, ?_⟩
        unfold ofK
        dsimp only
        rw [if_neg (by omega), if_neg (by omega), if_neg (by omega), clean_eq w (by omega), Option.bind_some, hW, Option.bind_some, clean_eq _ (by omega), Option.bind_some, Make_yes neg d (sift (rest.takeWhile isG)) z (by omega) (by omega) (by omega) (hd.append (row_digs rest)) hne k (by omega), Option.bind_some, makeN_ok _ _ _ form (by omega)]
theorem Of_both (l : List UInt8) (hl : l.length ≤ 100) (k : Nat) (hk : 12000 ≤ k) : (rdS l).1 = (float11 l).2.2.2.2 ∧ float11_Of.f k (txt l) = some (ofD (float11 l)) := by
  have hs := sg_len l
  have e : float11_Of.f k (txt l) = ofK k (rdS l) := by
    unfold float11_Of.f
    rw [read_eq l (by omega) k (by omega), Option.bind_some]; rfl
  rw [e]
  unfold rdS float11
  by_cases hi : infW (sg l).2 = true
  · rw [if_pos hi, if_pos hi]; exact ⟨rfl, rfl⟩
  · rw [if_neg hi, if_neg hi]
    by_cases hn : nanW (sg l).2 = true ∧ (sg l).1 = []
    · rw [if_pos hn, if_pos hn]; exact ⟨rfl, rfl⟩
    · rw [if_neg hn, if_neg hn]
      unfold bodyR
      cases hc : cut46 (sg l).2 with
      | none => exact ⟨rfl, rfl⟩
      | some p =>
        obtain ⟨w, rest⟩ := p
        obtain ⟨e, _⟩ := cut46_some hc
        have hlen : (sg l).2.length = w.length + (rest.length + 1) := by rw [e, List.length_append, List.length_cons]
        dsimp only
        by_cases hw : w = []
        · subst hw
          rw [if_pos rfl]
          refine end_of ((sg l).1 == [45]) [] rest [] 2 (by omega) (.inr (.inl rfl)) (fun x hx => by simp at hx) (by simp) (by simp) k hk (whole_f1 [] (by simp) (by simp) k (by omega)) _ ?_
          unfold dec11
          cases expo11 (rest.dropWhile isG) with
          | none => rfl
          | some z =>
            dsimp only
            rw [if_pos (show ([] : List UInt8) = [] from rfl)]
            by_cases hq : sift (rest.takeWhile isG) = []
            · rw [if_pos hq, if_pos ⟨rfl, hq⟩]
            · rw [if_neg hq, if_neg (fun z => hq z.2), if_neg (fun z => absurd z.1 (by decide))]; rfl
        · rw [if_neg hw]
          cases hwh : whole11 w with
          | none =>
            have : dec11 ((sg l).1 == [45]) w rest = zero6 := by
              unfold dec11
              cases expo11 (rest.dropWhile isG) with
              | none => rfl
              | some z => dsimp only; rw [if_neg hw, hwh]
            rw [this]; exact ⟨rfl, rfl⟩
          | some df =>
            obtain ⟨d, form⟩ := df
            obtain ⟨d1, d2, d3, d4⟩ := whole11_ok (by omega) hwh
            dsimp only
            refine end_of ((sg l).1 == [45]) w rest d form (by omega) (by rcases d4 with h | h <;> simp [h]) d1 d3 (by rcases d4 with h | h <;> simp [h, d2]) k hk (whole_clean (by omega) hwh k (by omega)) _ ?_
            unfold dec11
            cases expo11 (rest.dropWhile isG) with
            | none => rfl
            | some z =>
              dsimp only
              rw [if_neg hw, hwh, if_neg (fun q : form = 2 ∧ _ => by rcases d4 with h | h <;> (rw [h] at q; exact absurd q.1 (by decide)))]
theorem Of11_eq (l : List UInt8) (hl : l.length ≤ 100) (k : Nat) (hk : 12000 ≤ k) : float11_Of.f k (txt l) = some (ofD (float11 l)) := (Of_both l hl k hk).2
/-- the form alone -/
theorem end_form (neg : Bool) (w rest d : List UInt8) (form : Int) (D : D6)
    (hD : D = match expo11 (rest.dropWhile isG) with | none => zero6 | some z => if form = 2 ∧ sift (rest.takeWhile isG) = [] then zero6 else if form = 3 ∧ rest.dropWhile isG ≠ [] then zero6 else six5 (makeN neg (d ++ sift (rest.takeWhile isG)) (z - (sift (rest.takeWhile isG)).length)) form) :
    (endR form neg w rest).1 = D.2.2.2.2 := by
  subst hD
  unfold endR
  cases expo11 (rest.dropWhile isG) with
  | none => rfl
  | some z =>
    dsimp only
    by_cases c1 : form = 2 ∧ sift (rest.takeWhile isG) = []
    · rw [if_pos c1, if_pos c1]; rfl
    · rw [if_neg c1, if_neg c1]
      by_cases c2 : form = 3 ∧ rest.dropWhile isG ≠ []
      · rw [if_pos c2, if_pos c2]; rfl
      · rw [if_neg c2, if_neg c2]; rfl
theorem form_both (l : List UInt8) (hl : l.length ≤ 100) : (rdS l).1 = (float11 l).2.2.2.2 := by
  have hs := sg_len l
  unfold rdS float11
  by_cases hi : infW (sg l).2 = true
  · rw [if_pos hi, if_pos hi]
  · rw [if_neg hi, if_neg hi]
    by_cases hn : nanW (sg l).2 = true ∧ (sg l).1 = []
    · rw [if_pos hn, if_pos hn]
    · rw [if_neg hn, if_neg hn]
      unfold bodyR
      cases hc : cut46 (sg l).2 with
      | none => rfl
      | some p =>
        obtain ⟨w, rest⟩ := p
        dsimp only
        by_cases hw : w = []
        · subst hw
          rw [if_pos rfl]
          refine end_form ((sg l).1 == [45]) [] rest [] 2 _ ?_
          unfold dec11
          cases expo11 (rest.dropWhile isG) with
          | none => rfl
          | some z =>
            dsimp only
            rw [if_pos (show ([] : List UInt8) = [] from rfl)]
            by_cases hq : sift (rest.takeWhile isG) = []
            · rw [if_pos hq, if_pos ⟨rfl, hq⟩]
            · rw [if_neg hq, if_neg (fun z => hq z.2), if_neg (fun z => absurd z.1 (by decide))]; rfl
        · rw [if_neg hw]
          cases hwh : whole11 w with
          | none =>
            have : dec11 ((sg l).1 == [45]) w rest = zero6 := by
              unfold dec11
              cases expo11 (rest.dropWhile isG) with
              | none => rfl
              | some z => dsimp only; rw [if_neg hw, hwh]
            rw [this]; rfl
          | some df =>
            obtain ⟨d, form⟩ := df
            have d4 : form = 1 ∨ form = 3 := by
              unfold whole11 at hwh
              split at hwh
              · split at hwh
                · exact .inl (Prod.mk.inj (Option.some.inj hwh)).2.symm
                · obtain ⟨m, _, e⟩ := Option.map_eq_some_iff.1 hwh
                  exact .inr (Prod.mk.inj e).2.symm
              · cases hwh
            dsimp only
            refine end_form ((sg l).1 == [45]) w rest d form _ ?_
            unfold dec11
            cases expo11 (rest.dropWhile isG) with
            | none => rfl
            | some z =>
              dsimp only
              rw [if_neg hw, hwh, if_neg (fun q : form = 2 ∧ _ => by rcases d4 with h | h <;> (rw [h] at q; exact absurd q.1 (by decide)))]
theorem Form11_eq (l : List UInt8) (hl : l.length ≤ 100) (k : Nat) (hk : 12000 ≤ k) : float11_Form.f k (txt l) = some (float11 l).2.2.2.2 := by
  unfold float11_Form.f
  rw [read_eq l (by omega) k (by omega), Option.bind_some, form_both l hl]
theorem Is11_eq (l : List UInt8) (hl : l.length ≤ 100) (k : Nat) (hk : 12000 ≤ k) : float11_Is.f k (txt l) = some (decide ((float11 l).2.2.2.2 > 0)) := by
  unfold float11_Is.f
  rw [Form11_eq l hl k hk]; rfl
end Go.Proofs.YtkijneohhilboaaGreatDoor.FloatSpec
