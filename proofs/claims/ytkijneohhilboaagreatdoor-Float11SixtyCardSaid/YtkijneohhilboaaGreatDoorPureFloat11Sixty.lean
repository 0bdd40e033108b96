/- The pure law Float11Sixty: a whole number to the base 60 is that decimal, with a point behind it. No conditions. -/
import Derived.Test.YtkijneohhilboaaGreatDoorFloat11Dig
import Derived.Test.YtkijneohhilboaaGreatDoorPKx14
namespace Go.Proofs.YtkijneohhilboaaGreatDoor.Pure
set_option linter.unusedSimpArgs false
set_option linter.unusedVariables false
open Go.RowKit Go.Lib Go.Proofs.YtkijneohhilboaaGreatDoor.Room Go.Proofs.YtkijneohhilboaaGreatDoor.PK Go.Proofs.YtkijneohhilboaaGreatDoorW.PrintWords Go.Proofs.YtkijneohhilboaaGreatDoor.Aid Go.Proofs.YtkijneohhilboaaGreatDoor.Num Go.Proofs.YtkijneohhilboaaGreatDoor.BigFns Go.Proofs.YtkijneohhilboaaGreatDoor.BigQ Go.Proofs.YtkijneohhilboaaGreatDoor.RefBig Go.Proofs.YtkijneohhilboaaGreatDoor.DecSpec Go.Proofs.YtkijneohhilboaaGreatDoor.NumSpec Go.Proofs.YtkijneohhilboaaGreatDoor.IntSpec Go.Proofs.YtkijneohhilboaaGreatDoor.FSix Go.Proofs.YtkijneohhilboaaGreatDoor.FloatSpec
def glue (W : List UInt8) : List (List UInt8) → List UInt8
  | [] => W
  | p :: ps => W ++ 58 :: glue p ps
theorem glue_snoc : ∀ (ps : List (List UInt8)) (W p : List UInt8), glue W (ps ++ [p]) = glue W ps ++ 58 :: p
  | [], W, p => rfl
  | q :: ps, W, p => by
    show W ++ 58 :: glue q (ps ++ [p]) = (W ++ 58 :: glue q ps) ++ 58 :: p
    rw [glue_snoc ps q p]; simp
theorem cols_glue : ∀ (ps : List (List UInt8)) (W : List UInt8), (∀ p ∈ W :: ps, 58 ∉ p) → cols (glue W ps) = W :: ps
  | [], W, h => (cols_head W).1 (h W (by simp))
  | q :: ps, W, h => by
    show cols (W ++ 58 :: glue q ps) = _
    rw [(cols_head _).2 W (glue q ps) rfl (h W (by simp)), cols_glue ps q (fun p hp => h p (List.mem_cons_of_mem _ hp))]
theorem glue_len : ∀ (ps : List (List UInt8)) (W : List UInt8) (n : Nat), (∀ p ∈ ps, p.length ≤ n) → (glue W ps).length ≤ W.length + ps.length * (n + 1)
  | [], W, n, h => by simp [glue]
  | q :: ps, W, n, h => by
    have := glue_len ps q n (fun p hp => h p (List.mem_cons_of_mem _ hp))
    have hq := h q (by simp)
    show (W ++ 58 :: glue q ps).length ≤ _
    rw [List.length_append, List.length_cons, List.length_cons, Nat.add_mul]
    omega
theorem digs_no58 {l : List UInt8} (h : Digs l) : 58 ∉ l := fun q => absurd (h 58 q).2 (by decide)
theorem val_two (a b : UInt8) : val [a, b] = 10 * dv a + dv b := by
  rw [show [a, b] = [a] ++ [b] from rfl, val_snoc, show [a] = [] ++ [a] from rfl, val_snoc, val_nil]; omega
theorem okPart_of {l : List UInt8} (hd : Digs l) (hne : l ≠ []) (hl : l.length ≤ 2) (hv : val l < 60) : okPart l = true := by
  unfold okPart
  rw [(okD_iff _).2 ⟨hd, hne⟩, Bool.true_and]
  match l, hd, hne, hl, hv with
  | [], _, hne, _, _ => exact absurd rfl hne
  | [a], _, _, _, _ => rfl
  | [a, b], hd, _, _, hv =>
    rw [val_two] at hv
    have ha : 48 ≤ a.toNat ∧ a.toNat ≤ 57 := hd a (by simp)
    have : a.toNat ≤ 53 := by unfold dv at hv; omega
    rw [List.headD_cons, decide_eq_true this]; rfl
  | a :: b :: c :: r, _, _, hl, _ => simp at hl
theorem dec_two {p : Nat} (h : p < 100) : (decDigits p).length ≤ 2 := by rw [decDigits_length]; exact nDigits_le 1 _ h
theorem sixW_snoc : ∀ (ps : List (List UInt8)) (n m : Nat) (p : List UInt8), sixW ps n = some m → okPart p = true → sixW (ps ++ [p]) n = some (m * 60 + val p)
  | [], n, m, p, h, hp => by
    obtain rfl := Option.some.inj (show some n = some m from h)
    show sixW [p] n = _
    unfold sixW; rw [if_pos hp]; rfl
  | q :: ps, n, m, p, h, hp => by
    unfold sixW at h
    show sixW (q :: (ps ++ [p])) n = _
    unfold sixW
    split at h
    · rename_i hq
      rw [if_pos hq]
      exact sixW_snoc ps _ m p h hp
    · cases h
theorem okp_ {p : Nat} (hp60 : p < 60) : okPart (decDigits p) = true := okPart_of (dec_digs p) (dec_ne p) (dec_two (by omega)) (by rw [dec_val]; exact hp60)
theorem sift_digs7 {l : List UInt8} (h : Digs l) : sift l = l := sift_no (digs_no h (by decide))
theorem glue_no46 : ∀ (ps : List (List UInt8)) (W : List UInt8), Digs W → (∀ p ∈ ps, Digs p) → 46 ∉ glue W ps
  | [], W, hW, _ => digs_no hW (by decide)
  | q :: ps, W, hW, h => by
    show 46 ∉ W ++ 58 :: glue q ps
    have ih := glue_no46 ps q (h q (by simp)) (fun p hp => h p (List.mem_cons_of_mem _ hp))
    intro e
    rcases List.mem_append.1 e with e | e
    · exact digs_no hW (by decide) e
    · rcases List.mem_cons.1 e with e | e
      · exact absurd e (by decide)
      · exact ih e
theorem whole_glue {W : List UInt8} (hW : Digs W) (hne : W ≠ []) {ps : List (List UInt8)} (hps : ps ≠ []) (h58 : ∀ p ∈ ps, 58 ∉ p) : whole11 (glue W ps) = (sixW ps (val W)).map fun n => (decDigits n, 3) := by
  obtain ⟨x, r, rfl⟩ : ∃ x r, W = x :: r := by cases W with
    | nil => exact absurd rfl hne
    | cons x r => exact ⟨x, r, rfl⟩
  obtain ⟨q, qs, rfl⟩ : ∃ q qs, ps = q :: qs := by cases ps with
    | nil => exact absurd rfl hps
    | cons q qs => exact ⟨q, qs, rfl⟩
  have hx : 48 ≤ x.toNat ∧ x.toNat ≤ 57 := hW x (by simp)
  have h := whole_scan hx r (58 :: glue q qs) (fun y hy => isG_of (hW y (by simp [hy]))) (.inr ⟨58, _, rfl, by decide⟩)
  have hg : glue (x :: r) (q :: qs) = x :: (r ++ 58 :: glue q qs) := rfl
  rw [hg, h]
  show (if (58 : UInt8) = 58 then (sixW (cols (glue q qs)) (val (sift (x :: r)))).map fun n => (decDigits n, (3 : Int)) else none) = _
  rw [if_pos rfl, cols_glue qs q h58, sift_digs7 hW]
theorem dec11_six (neg : Bool) {S d : List UInt8} (hne : S ≠ []) (hS : whole11 S = some (d, 3)) (F t : List UInt8) (hF : Digs F) (ht : ∀ x ∈ t.head?, isG x = false) : dec11 neg S (F ++ t) = match expo11 t with | none => zero6 | some z => if t ≠ [] then zero6 else six5 (makeN neg (d ++ F) (z - F.length)) 3 := by
  obtain ⟨e1, e2⟩ := tw_G F t (digs_G hF) ht
  unfold dec11
  rw [e1, e2, sift_digs7 hF]
  cases expo11 t with
  | none => rfl
  | some z =>
    dsimp only
    rw [if_neg hne, hS]
    dsimp only
    by_cases h : t ≠ []
    · rw [if_pos ⟨rfl, h⟩, if_pos h]
    · rw [if_neg (fun q : (3 : Int) = 3 ∧ _ => h q.2), if_neg h]
theorem dec11_no (neg : Bool) {S : List UInt8} (hne : S ≠ []) (hS : whole11 S = none) (rest : List UInt8) : dec11 neg S rest = zero6 := by
  unfold dec11
  cases expo11 (rest.dropWhile isG) with
  | none => rfl
  | some z => dsimp only; rw [if_neg hne, hS]
theorem sixty7_j2 {W : List UInt8} (hW : Digs W) (hne : W ≠ []) (hWl : W.length ≤ 5) {ps : List (List UInt8)} (hps : ps ≠ []) (hp : ∀ p ∈ ps, okPart p = true) (hl : ps.length ≤ 6) (m : Nat) (hm : sixW ps (val W) = some m) (f : ByteArray) (hf : f.size ≤ 30) (neg : Bool) (k : Nat) (hk : 12000 ≤ k) (M : D5) (hM : M = makeN neg (decDigits m ++ digL f.data.toList) (0 - (digL f.data.toList).length)) :
    targumlaw7_Float11Sixty.j2 (k + 1) f (txt (glue W ps)) (txt (if neg then [45] else [])) M.1 M.2.1 M.2.2.1 M.2.2.2.1 = some true := by
  have hpd : ∀ p ∈ ps, Digs p := fun p h => (okPart_digs (hp p h)).1
  have l1 := glue_len ps W 2 (fun p h => okPart_len (hp p h))
  have sz1 : (glue W ps).length ≤ 30 := by omega
  have hF := digL_digs f.data.toList
  have lF : (digL f.data.toList).length = f.size := by rw [digL_length, ← Lib.size_eq]
  have df := digits7 f (by omega) k (by omega)
  obtain ⟨F, hFe⟩ : ∃ F, digL f.data.toList = F := ⟨_, rfl⟩
  rw [hFe] at hF lF df hM
  have w1 := whole_glue hW hne hps (fun p h => digs_no58 (hpd p h))
  rw [hm] at w1
  have w2 := whole_glue hW hne (ps := ps ++ [[]]) (by simp) (fun p h => by
    rcases List.mem_append.1 h with e | e
    · exact digs_no58 (hpd p e)
    · rw [List.mem_singleton.1 e]; simp)
  have hall := sixW_some (ps ++ [[]]) (val W)
  rw [List.all_append, show ([[]] : List (List UInt8)).all okPart = false from rfl, Bool.and_false] at hall
  have hnone : sixW (ps ++ [[]]) (val W) = none := by
    cases hh : sixW (ps ++ [[]]) (val W) with
    | none => rfl
    | some n => rw [hh] at hall; cases hall
  rw [hnone, glue_snoc] at w2
  have n46 := glue_no46 ps W hW hpd
  obtain ⟨x, r, hxr, hx⟩ : ∃ x r, glue W ps = x :: r ∧ (48 ≤ x.toNat ∧ x.toNat ≤ 57) := by
    cases W with
    | nil => exact absurd rfl hne
    | cons x r =>
      cases ps with
      | nil => exact absurd rfl hps
      | cons q qs => exact ⟨x, _, rfl, hW x (by simp)⟩
  obtain ⟨S, hS⟩ : ∃ S, glue W ps = S := ⟨_, rfl⟩
  rw [hS] at sz1 w1 w2 n46 hxr ⊢
  have hSne : S ≠ [] := by rw [hxr]; exact List.cons_ne_nil _ _
  have at_ : ∀ (s w t : List UInt8), (s = [] ∨ s = [43] ∨ s = [45]) → w = S ∨ w = S ++ [58] → float11 (s ++ (w ++ 46 :: t)) = dec11 (s == [45]) w t := fun s w t hs hw => by
    refine float11_at s w t hs ?_ ?_ ?_
    · rcases hw with rfl | rfl
      · exact n46
      · intro e
        rcases List.mem_append.1 e with e | e
        · exact n46 e
        · exact absurd (List.mem_singleton.1 e) (by decide)
    · intro y hy
      have : y = x := by rcases hw with rfl | rfl <;> (rw [hxr] at hy; simpa using hy.symm)
      rw [this]; exact .inr hx
    · intro e
      rcases hw with rfl | rfl
      · exact absurd e hSne
      · simp at e
  have six0 : ∀ s : List UInt8, (s = [] ∨ s = [43] ∨ s = [45]) → float11 (s ++ (S ++ 46 :: F)) = six5 (makeN (s == [45]) (decDigits m ++ F) (0 - F.length)) 3 := fun s hs => by
    have := dec11_six (s == [45]) hSne (show whole11 S = some (decDigits m, 3) from w1) F [] hF (by simp)
    rw [List.append_nil] at this
    rw [at_ s S F hs (.inl rfl), this]
    rfl
  have i1 : float11 S = zero6 := by
    have hsg : sg S = ([], S) := by
      rw [hxr]; unfold sg; dsimp only
      rw [if_neg]
      rintro (e | e) <;> (subst e; exact absurd hx.1 (by decide))
    have hw := wordless (l := S) (by
      intro y hy e
      rw [hxr] at hy
      have : y = x := by simpa using hy.symm
      rw [this] at e
      subst e
      exact absurd hx.1 (by decide))
    have hc : cut46 S = none := by
      have := cut46_app S n46 []
      rw [List.append_nil] at this
      rw [this]; rfl
    unfold float11
    rw [hsg]
    dsimp only
    rw [hw.1, hw.2, if_neg Bool.false_ne_true, if_neg (fun q => Bool.false_ne_true q.1), hc]
  have i2 : float11 (S ++ 46 :: (F ++ [101, 43, 49])) = zero6 := by
    have := at_ [] S (F ++ [101, 43, 49]) (.inl rfl) (.inl rfl)
    rw [List.nil_append] at this
    rw [this, dec11_six _ hSne (show whole11 S = some (decDigits m, 3) from w1) F [101, 43, 49] hF (by decide)]
    have : expo11 [101, 43, 49] = some 1 := by decide
    rw [this]
    dsimp only
    rw [if_pos (by decide)]
  have i3 : float11 (S ++ [58] ++ 46 :: F) = zero6 := by
    have := at_ [] (S ++ [58]) F (.inl rfl) (.inr rfl)
    rw [List.nil_append] at this
    rw [this]
    exact dec11_no _ (by simp) w2 F
  have hOf : ofD (six5 M 3) = M := by rw [hM]; exact makeN_ok _ _ _ 3 (by decide)
  have hMt : M.2.2.2.2 = true := by rw [hM]; exact (makeN_zero _ _ _).2
  have ls : ((if neg then [45] else []) : List UInt8).length ≤ 1 := by cases neg <;> decide
  have hs : (if neg then [45] else []) = ([] : List UInt8) ∨ (if neg then [45] else []) = ([43] : List UInt8) ∨ (if neg then [45] else []) = ([45] : List UInt8) := by cases neg <;> simp
  have hneg : ((if neg then [45] else []) == ([45] : List UInt8)) = neg := by cases neg <;> decide
  have e0 := six0 (if neg then [45] else []) hs
  rw [hneg, ← hM] at e0
  have e3 := six0 [] (.inl rfl)
  rw [List.nil_append] at e3
  obtain ⟨sn, hsn⟩ : ∃ sn : List UInt8, (if neg then [45] else []) = sn := ⟨_, rfl⟩
  rw [hsn] at e0 ls ⊢
  have q1 : sn ++ S ++ [46] ++ F = sn ++ (S ++ 46 :: F) := by simp
  have q2 : S ++ [46] ++ F = S ++ 46 :: F := by simp
  have q3 : S ++ 46 :: F ++ [101, 43, 49] = S ++ 46 :: (F ++ [101, 43, 49]) := by simp
  have q4 : S ++ [58, 46] ++ F = S ++ [58] ++ 46 :: F := by simp
  have z1 : (sn ++ (S ++ 46 :: F)).length = sn.length + S.length + 1 + f.size := by simp only [List.length_append, List.length_cons]; omega
  have z2 : (S ++ 46 :: F).length = S.length + 1 + f.size := by simp only [List.length_append, List.length_cons]; omega
  have z3 : (S ++ 46 :: (F ++ [101, 43, 49])).length = S.length + 4 + f.size := by simp only [List.length_append, List.length_cons, List.length_nil]; omega
  have z4 : (S ++ [58] ++ 46 :: F).length = S.length + 2 + f.size := by simp only [List.length_append, List.length_cons, List.length_nil]; omega
  have o0 := Of11_eq (sn ++ (S ++ 46 :: F)) (by omega) k hk
  have o1 := Form11_eq (S ++ 46 :: F) (by omega) k hk
  have o2 := Is11_eq S (by omega) k hk
  have o3 := Is11_eq (S ++ 46 :: (F ++ [101, 43, 49])) (by omega) k hk
  have o4 := Is11_eq (S ++ [58] ++ 46 :: F) (by omega) k hk
  rw [e0, hOf] at o0
  rw [e3] at o1
  rw [i1] at o2
  rw [i2] at o3
  rw [i3] at o4
  have no : decide (zero6.2.2.2.2 > 0) = false := by decide
  rw [no] at o2 o3 o4
  have o1' : float11_Form.f k (txt (S ++ 46 :: F)) = some 3 := o1
  clear o1 e3 e0 six0 at_ i1 i2 i3 w1 w2
  have y1 : (sn ++ S).length + 1 ≤ 9223372036854775807 := by rw [List.length_append]; omega
  have y2 : (sn ++ S ++ [46]).length + F.length ≤ 9223372036854775807 := by rw [List.length_append, List.length_append, List.length_singleton]; omega
  have y3 : (S ++ [46]).length + F.length ≤ 9223372036854775807 := by rw [List.length_append, List.length_singleton]; omega
  have y4 : (S ++ [58, 46]).length + F.length ≤ 9223372036854775807 := by rw [List.length_append, List.length_cons, List.length_singleton]; omega
  have y5 : (S ++ 46 :: F).length + 3 ≤ 9223372036854775807 := by omega
  have y6 : S.length + 2 ≤ 9223372036854775807 := by omega
  have y7 : S.length + 1 ≤ 9223372036854775807 := by omega
  have y8 : sn.length + S.length ≤ 9223372036854775807 := by omega
  clear z1 z2 z3 z4 ls lF sz1 l1
  simp only [targumlaw7_Float11Sixty.j2]
  rw [txt_size, txt_size, if_pos y8, app_txt, txt_size, if_pos y1, df, Option.bind_some, show (⟨#[46]⟩ : ByteArray) = txt [46] from rfl, show (⟨#[101, 43, 49]⟩ : ByteArray) = txt [101, 43, 49] from rfl, show (⟨#[58, 46]⟩ : ByteArray) = txt [58, 46] from rfl, app_txt, txt_size, txt_size, if_pos y2, app_txt, q1, o0, Option.bind_some, if_pos hMt, if_pos (eqD M M rfl), if_pos y7, Option.bind_some, app_txt, txt_size, txt_size, if_pos y3, app_txt, q2, o1', Option.bind_some, if_pos (show (3 : Int) = 3 from rfl), o2, Option.bind_some, if_neg Bool.false_ne_true, Option.bind_some, txt_size, if_pos y3, app_txt, q2, txt_size, if_pos y5, app_txt, q3, o3, Option.bind_some, if_neg Bool.false_ne_true, if_pos y6, Option.bind_some, app_txt, txt_size, txt_size, if_pos y4, app_txt, q4, o4, Option.bind_some]
  rfl
theorem w60 (m p : Nat) (h : m < 4503599627370496) (hp : p < 60) : wrap64 ((wrap64 (60 * (m : Int))) + (wrap64 (p : Int))) = ((m * 60 + p : Nat) : Int) := by
  rw [wrap_id (x := 60 * (m : Int)) (by omega) (by omega), wrap_id (x := (p : Int)) (by omega) (by omega), wrap_id (by omega) (by omega)]
  omega
theorem wi1 (i : Nat) (h : i ≤ 10) : wrap64 ((i : Int) + 1) = ((i + 1 : Nat) : Int) := (wrap_id (by omega) (by omega)).trans (by omega)
theorem wp1 (p : Nat) (h : p < 60) : wrap64 (p : Int) = (p : Int) := wrap_id (by omega) (by omega)
theorem p60 : ∀ i : Nat, i ≤ 6 → 65536 * 60 ^ i ≤ 4503599627370496 := fun i h => by
  have : (60 : Nat) ^ i ≤ 60 ^ 5 * 60 := by
    rw [← Nat.pow_succ]; exact Nat.pow_le_pow_right (by decide) h
  have e : (60 : Nat) ^ 5 * 60 = 46656000000 := by decide
  omega
theorem y3_ (a b : List UInt8) (ha : a.length ≤ 30) (hb : b.length ≤ 2) : (a ++ [58]).length + b.length ≤ 9223372036854775807 := by rw [List.length_append, List.length_singleton]; omega
theorem sixty7_l0 (L : List Int) (hL : 1 ≤ L.length ∧ L.length ≤ 6) (hw : ∀ x ∈ L, 0 ≤ x ∧ x ≤ 255) (f : ByteArray) (hf : f.size ≤ 30) (neg : Bool) {W : List UInt8} (hW : Digs W) (hne : W ≠ []) (hWl : W.length ≤ 5) :
    ∀ (d i m : Nat) (ps : List (List UInt8)) (k : Nat), i + d = L.length → ps.length = i → (∀ p ∈ ps, okPart p = true) → sixW ps (val W) = some m → m < 65536 * 60 ^ i → 120000 + d ≤ k → targumlaw7_Float11Sixty.l0 k L f neg (txt (glue W ps)) (m : Int) (i : Int) = some true
  | 0, i, m, ps, k, hi, hl, hp, hm, hb, hk => by
    obtain ⟨k, rfl⟩ : ∃ q, k = q + 2 := ⟨k - 2, by omega⟩
    have hb6 := p60 i (by omega)
    have hF := digL_digs f.data.toList
    have lF : (digL f.data.toList).length = f.size := by rw [digL_length, ← Lib.size_eq]
    have df := digits7 f (by omega) (k + 1) (by omega)
    have dm : (decDigits m).length ≤ 20 := by rw [decDigits_length]; exact nDigits_le 19 _ (Nat.lt_of_lt_of_le (Nat.lt_of_lt_of_le hb hb6) (by decide))
    have tx := rText_eq m (by omega) (k + 1) (by omega)
    have mk := rMake_yes neg (decDigits m) (digL f.data.toList) 0 (by omega) (by omega) (by rw [itoa_zero]; decide) ((dec_digs m).append hF) (fun e => dec_ne m (List.append_eq_nil_iff.1 e).1) (k + 1) (by omega)
    have z0 : (num 0) = (⟨#[48]⟩ : ByteArray) := by rw [show (0 : Int) = ((0 : Nat) : Int) from rfl, num_nat, dec_zero]; rfl
    rw [z0] at mk
    have j2 := fun ng : Bool => sixty7_j2 hW hne hWl (ps := ps) (fun e => by rw [e] at hl; simp at hl; omega) hp (by omega) m hm f hf ng k (by omega) _ rfl
    simp only [targumlaw7_Float11Sixty.l0]
    rw [if_neg (by omega), tx, Option.bind_some, df, Option.bind_some, mk, Option.bind_some]
    cases neg with
    | true => rw [if_pos rfl]; exact j2 true
    | false => rw [if_neg Bool.false_ne_true]; exact j2 false
  | d + 1, i, m, ps, k, hi, hl, hp, hm, hb, hk => by
    obtain ⟨k, rfl⟩ : ∃ q, k = q + 1 := ⟨k - 1, by omega⟩
    have hb6 := p60 i (by omega)
    have hm50 : m < 4503599627370496 := Nat.lt_of_lt_of_le hb hb6
    have hlt : i < L.length := by omega
    have l1 := glue_len ps W 2 (fun p h => okPart_len (hp p h))
    have lg : (glue W ps).length ≤ 30 := by omega
    have y0 : (i : Int) < (L.length : Int) := by omega
    have y1 : (glue W ps).length + 1 ≤ 9223372036854775807 := by omega
    have y2 : (0 : Int) ≤ (i : Int) := Int.natCast_nonneg i
    have i10 : i ≤ 10 := by omega
    have he : rd L (i : Int) = L[i] := by
      unfold rd
      rw [Int.toNat_natCast, List.getD_eq_getElem?_getD, List.getElem?_eq_getElem hlt]; rfl
    have hr := hw L[i] (List.getElem_mem hlt)
    obtain ⟨p, hpm, hp60⟩ : ∃ p : Nat, Int.tmod L[i] 60 = (p : Int) ∧ p < 60 := by
      refine ⟨(Int.tmod L[i] 60).toNat, ?_, ?_⟩ <;> (rw [Int.tmod_eq_emod_of_nonneg hr.1]; omega)
    have d2 := dec_two (show p < 100 by omega)
    have y3 := y3_ (glue W ps) (decDigits p) lg d2
    have tx := rText_eq p (by omega) k (by omega)
    have hok := okp_ hp60
    have hs := sixW_snoc ps (val W) m (decDigits p) hm hok
    rw [dec_val] at hs
    have hb' : m * 60 + p < 65536 * 60 ^ (i + 1) := by
      rw [Nat.pow_succ, ← Nat.mul_assoc]
      have := Nat.mul_le_mul_right 60 (show m + 1 ≤ 65536 * 60 ^ i from hb)
      omega
    have ih := sixty7_l0 L hL hw f hf neg hW hne hWl d (i + 1) (m * 60 + p) (ps ++ [decDigits p]) k (by omega) (by rw [List.length_append, List.length_singleton, hl]) (fun q hq => by
      rcases List.mem_append.1 hq with e | e
      · exact hp q e
      · rw [List.mem_singleton.1 e]; exact hok) hs hb' (by omega)
    rw [glue_snoc] at ih
    have e1 : glue W ps ++ [58] ++ decDigits p = glue W ps ++ 58 :: decDigits p := by simp
    have ww := w60 m p hm50 hp60
    have wi := wi1 i i10
    have wp := wp1 p hp60
    simp only [targumlaw7_Float11Sixty.l0]
    rw [if_pos y0, txt_size, if_pos y1, if_pos y2, he, hpm, wp, tx, Option.bind_some, show (⟨#[58]⟩ : ByteArray) = txt [58] from rfl, app_txt, txt_size, txt_size, if_pos y3, app_txt, e1, wi]
    have ww' : wrap64 (wrap64 (60 * (m : Int)) + (p : Int)) = ((m * 60 + p : Nat) : Int) := by rw [← ww, wp]
    rw [ww']
    exact ih
theorem Float11Sixty : targumlaw7_Float11Sixty.Pure := by
  intro first L f neg hfi hL0 hL1 hLw hf0
  have h16 : 0 ≤ first ∧ first ≤ 65535 := by
    have : (decide (IntKind.u16.min ≤ first) && decide (first ≤ IntKind.u16.max)) = true := hfi
    rw [Bool.and_eq_true, decide_eq_true_iff, decide_eq_true_iff] at this
    have p : IntKind.u16.min = 0 := rfl
    have q : IntKind.u16.max = 65535 := rfl
    omega
  have hw : ∀ x ∈ L, 0 ≤ x ∧ x ≤ 255 := fun x hx => by
    have : (decide (IntKind.u8.min ≤ x) && decide (x ≤ IntKind.u8.max)) = true := hLw x hx
    rw [Bool.and_eq_true, decide_eq_true_iff, decide_eq_true_iff] at this
    have a : IntKind.u8.min = 0 := rfl
    have b : IntKind.u8.max = 255 := rfl
    omega
  obtain ⟨n, rfl⟩ : ∃ n : Nat, first = n := ⟨first.toNat, by omega⟩
  obtain ⟨K, hK⟩ : ∃ K, K = 120100 := ⟨_, rfl⟩
  refine ⟨K + 1, ?_⟩
  have hk := known7 (K + 1) (by omega)
  have J0 : targumlaw7_Float11Sixty.j0 (K + 1) (n : Int) L f neg true = some true := by simp only [targumlaw7_Float11Sixty.j0, if_true]
  unfold targumlaw7_Float11Sixty.f
  rw [hk, Option.bind_some, if_pos rfl]
  by_cases h1 : (L.length : Int) < 1
  · rw [if_pos h1]; exact J0
  · rw [if_neg h1]
    by_cases h2 : (L.length : Int) > 6
    · rw [if_pos h2]; exact J0
    · rw [if_neg h2]
      by_cases h3 : (f.size : Int) > 30
      · rw [decide_eq_true h3]; exact J0
      · rw [decide_eq_false h3]
        have dn : (decDigits n).length ≤ 5 := by rw [decDigits_length]; exact nDigits_le 4 _ (by omega)
        have tx := rText_eq n (by omega) K (by omega)
        simp only [targumlaw7_Float11Sixty.j0, Bool.false_eq_true, if_false]
        rw [wrap_id (x := (n : Int)) (by omega) (by omega), tx, Option.bind_some]
        have := sixty7_l0 L ⟨by omega, by omega⟩ hw f (by omega) neg (dec_digs n) (dec_ne n) dn L.length 0 n [] K (by omega) rfl (by simp) (by show some (val (decDigits n)) = some n; rw [dec_val]) (by rw [Nat.pow_zero]; omega) (by omega)
        exact this
end Go.Proofs.YtkijneohhilboaaGreatDoor.Pure
