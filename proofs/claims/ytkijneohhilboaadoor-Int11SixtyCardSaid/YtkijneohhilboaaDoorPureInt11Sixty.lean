/- The pure law Int11Sixty: each part is sixty times what is behind it; a part of sixty or more is none, but the first. No conditions. -/
import Derived.Test.YtkijneohhilboaaDoorInt11Law
import Derived.Test.YtkijneohhilboaaDoorPIx10
namespace Go.Proofs.YtkijneohhilboaaDoor.Pure
set_option linter.unusedSimpArgs false
set_option linter.unusedVariables false
open Go.RowKit Go.Lib Go.Proofs.YtkijneohhilboaaDoor.Room Go.Proofs.YtkijneohhilboaaDoor.PI Go.Proofs.YtkijneohhilboaaDoorW.PrintWords Go.Proofs.YtkijneohhilboaaDoor.Aid Go.Proofs.YtkijneohhilboaaDoor.Num Go.Proofs.YtkijneohhilboaaDoor.BigFns Go.Proofs.YtkijneohhilboaaDoor.BigQ Go.Proofs.YtkijneohhilboaaDoor.RefBig Go.Proofs.YtkijneohhilboaaDoor.DecSpec Go.Proofs.YtkijneohhilboaaDoor.NumSpec Go.Proofs.YtkijneohhilboaaDoor.IntSpec
/-- parts with colons between -/
def glue (W : List UInt8) : List (List UInt8) → List UInt8
  | [] => W
  | p :: ps => W ++ 58 :: glue p ps
theorem glue_snoc : ∀ (ps : List (List UInt8)) (W p : List UInt8), glue W (ps ++ [p]) = glue W ps ++ 58 :: p
  | [], W, p => rfl
  | q :: ps, W, p => by
    show W ++ 58 :: glue q (ps ++ [p]) = (W ++ 58 :: glue q ps) ++ 58 :: p
    rw [glue_snoc ps q p]; simp
theorem cols_glue : ∀ (ps : List (List UInt8)) (W : List UInt8), (∀ p ∈ W :: ps, 58 ∉ p) → cols (glue W ps) = W :: ps
  | [], W, h => (cols_head W).1 (h W (by simp))
  | q :: ps, W, h => by
    show cols (W ++ 58 :: glue q ps) = _
    rw [(cols_head _).2 W (glue q ps) rfl (h W (by simp)), cols_glue ps q (fun p hp => h p (List.mem_cons_of_mem _ hp))]
theorem glue_len : ∀ (ps : List (List UInt8)) (W : List UInt8) (n : Nat), (∀ p ∈ ps, p.length ≤ n) → (glue W ps).length ≤ W.length + ps.length * (n + 1)
  | [], W, n, h => by simp [glue]
  | q :: ps, W, n, h => by
    have := glue_len ps q n (fun p hp => h p (List.mem_cons_of_mem _ hp))
    have hq := h q (by simp)
    show (W ++ 58 :: glue q ps).length ≤ _
    rw [List.length_append, List.length_cons, List.length_cons, Nat.add_mul]
    omega
theorem digs_no58 {l : List UInt8} (h : Digs l) : 58 ∉ l := fun q => absurd (h 58 q).2 (by decide)
theorem val_two (a b : UInt8) : val [a, b] = 10 * dv a + dv b := by
  rw [show [a, b] = [a] ++ [b] from rfl, val_snoc, show [a] = [] ++ [a] from rfl, val_snoc, val_nil]; omega
theorem okPart_of {l : List UInt8} (hd : Digs l) (hne : l ≠ []) (hl : l.length ≤ 2) (hv : val l < 60) : okPart l = true := by
  unfold okPart
  rw [(okD_iff _).2 ⟨hd, hne⟩, Bool.true_and]
  match l, hd, hne, hl, hv with
  | [], _, hne, _, _ => exact absurd rfl hne
  | [a], _, _, _, _ => rfl
  | [a, b], hd, _, _, hv =>
    rw [val_two] at hv
    have ha : 48 ≤ a.toNat ∧ a.toNat ≤ 57 := hd a (by simp)
    have : a.toNat ≤ 53 := by unfold dv at hv; omega
    rw [List.headD_cons, decide_eq_true this]; rfl
  | a :: b :: c :: r, _, _, hl, _ => simp at hl
theorem okPart_val {l : List UInt8} (h : okPart l = true) : val l < 60 := by
  have hd := (okPart_digs h).1
  have hl := okPart_len h
  match l, hd, hl, h with
  | [], _, _, h => cases h
  | [a], hd, _, _ =>
    have := val_lt [a] hd
    simp at this; omega
  | [a, b], hd, _, h =>
    have ha : 48 ≤ a.toNat ∧ a.toNat ≤ 57 := hd a (by simp)
    have hb : 48 ≤ b.toNat ∧ b.toNat ≤ 57 := hd b (by simp)
    rw [val_two]
    unfold okPart at h
    simp only [Bool.and_eq_true, Bool.or_eq_true, decide_eq_true_eq, beq_iff_eq, List.headD_cons, List.length_cons, List.length_nil] at h
    have h53 : a.toNat ≤ 53 := by
      rcases h.2 with q | q
      · omega
      · exact of_decide_eq_true (p := a.toNat ≤ 53) q.2
    unfold dv
    omega
  | a :: b :: c :: r, _, hl, _ => simp at hl
theorem dec_two {p : Nat} (h : p < 100) : (decDigits p).length ≤ 2 := by rw [decDigits_length]; exact nDigits_le 1 _ h
theorem dec_one {p : Nat} (h : p < 10) : (decDigits p).length ≤ 1 := by rw [decDigits_length]; exact nDigits_le 0 _ h
theorem sixW_snoc : ∀ (ps : List (List UInt8)) (n m : Nat) (p : List UInt8), sixW ps n = some m → okPart p = true → sixW (ps ++ [p]) n = some (m * 60 + val p)
  | [], n, m, p, h, hp => by
    obtain rfl := Option.some.inj (show some n = some m from h)
    show sixW [p] n = _
    unfold sixW; rw [if_pos hp]; rfl
  | q :: ps, n, m, p, h, hp => by
    unfold sixW at h
    show sixW (q :: (ps ++ [p])) n = _
    unfold sixW
    split at h
    · rename_i hq
      rw [if_pos hq]
      exact sixW_snoc ps _ m p h hp
    · cases h
/-- the form and number of parts -/
theorem core_glue {W : List UInt8} (hW : Digs W) (hh : ∃ x r, W = x :: r ∧ 49 ≤ x.toNat) {ps : List (List UInt8)} (hne : ps ≠ []) (h58 : ∀ p ∈ ps, 58 ∉ p) : core11 (glue W ps) = (sixW ps (val W)).map fun n => (n, 6) := by
  obtain ⟨x, r, rfl, hx⟩ := hh
  have hxd : 48 ≤ x.toNat ∧ x.toNat ≤ 57 := hW x (by simp)
  obtain ⟨q, qs, rfl⟩ : ∃ q qs, ps = q :: qs := by cases ps with
    | nil => exact absurd rfl hne
    | cons q qs => exact ⟨q, qs, rfl⟩
  have hg : glue (x :: r) (q :: qs) = x :: (r ++ 58 :: glue q qs) := rfl
  have hno : okG 10 (r ++ 58 :: glue q qs) = false := by rw [okG_append, okG58, Bool.and_false]
  have hx48 : x ≠ 48 := fun e => by subst e; exact absurd hx (by decide)
  have hc := cols_glue (q :: qs) (x :: r) (fun p hp => by
    rcases List.mem_cons.1 hp with e | e
    · rw [e]; exact digs_no58 hW
    · exact h58 p e)
  have h2 : ∀ b : UInt8, List.take 2 (x :: (r ++ 58 :: glue q qs)) ≠ [48, b] := fun b e => hx48 (by simpa using congrArg List.head? e)
  unfold core11
  rw [hg, if_neg (h2 _), if_neg (h2 _), if_neg (by simp [hx48]), if_neg (by simp [hx48]), if_pos ⟨x, by simp, hx, hxd.2⟩, bareL_dig hxd, hno, if_neg Bool.false_ne_true]
  dsimp only
  unfold six
  rw [← hg, hc]
  show Option.map _ (if firstD (x :: r) = true then (match bareL 10 (x :: r) with | some d => sixW (q :: qs) (val d) | none => none) else none) = _
  have hb : okG 10 r = true := by
    unfold okG
    rw [List.all_eq_true]
    intro y hy
    have := hW y (by simp [hy])
    rw [decide_eq_true (dig_facts this).1, Bool.or_true]
  have hs : sift r = r := sift_no (fun e => absurd (hW 95 (by simp [e])).2 (by decide))
  rw [show firstD (x :: r) = true from decide_eq_true hxd, if_pos rfl, bareL_dig hxd, hb, if_pos rfl, hs]
theorem bad_glue {W : List UInt8} (hW : Digs W) (hh : ∃ x r, W = x :: r ∧ 49 ≤ x.toNat) {ps : List (List UInt8)} (hne : ps ≠ []) (h58 : ∀ p ∈ ps, 58 ∉ p) (hbad : ps.all okPart = false) : core11 (glue W ps) = none := by
  rw [core_glue hW hh hne h58]
  have := sixW_some ps (val W)
  rw [hbad] at this
  cases hs : sixW ps (val W) with
  | none => rfl
  | some n => rw [hs] at this; cases this
theorem sg_dig {x : UInt8} (h : 48 ≤ x.toNat) (r : List UInt8) : sg (x :: r) = ([], x :: r) := by
  unfold sg; dsimp only
  rw [if_neg]
  rintro (e | e) <;> (subst e; exact absurd h (by decide))
/-- the last questions -/
theorem sixty_j3 {W : List UInt8} (hW : Digs W) (hh : ∃ x r, W = x :: r ∧ 49 ≤ x.toNat) (hWl : W.length ≤ 5) {ps qs : List (List UInt8)} (hps : ps ≠ []) (hqs : qs ≠ []) (hp : ∀ p ∈ ps, okPart p = true) (hq : ∀ p ∈ qs, 58 ∉ p) (hbad : qs.all okPart = false) (hl : ps.length ≤ 6) (hlq : qs.length ≤ 6) (hq2 : ∀ p ∈ qs, p.length ≤ 2) (m : Nat) (hm : sixW ps (val W) = some m) (hm1 : 1 ≤ m) (neg : Bool) (k : Nat) (hk : 5000 ≤ k) :
    targumlaw6_Int11Sixty.j3 (k + 1) (txt (glue W ps)) (txt (glue W qs)) (txt ((if neg then [45] else []) ++ decDigits m)) (txt (if neg then [45] else [])) = some true := by
  have hp58 : ∀ p ∈ ps, 58 ∉ p := fun p h => digs_no58 (okPart_digs (hp p h)).1
  have l1 := glue_len ps W 2 (fun p h => okPart_len (hp p h))
  have l2 := glue_len qs W 2 hq2
  have sz1 : (glue W ps).length ≤ 30 := by omega
  have sz2 : (glue W qs).length ≤ 30 := by omega
  have c1 := core_glue hW hh hps hp58
  rw [hm] at c1
  have c2 := bad_glue hW hh hqs hq hbad
  have allp : ∀ bad : List UInt8, okPart bad = false → (ps ++ [bad]).all okPart = false := fun bad hb => by rw [List.all_append]; show (_ && (okPart bad && true)) = false; rw [hb]; simp
  have c3 := bad_glue hW hh (ps := ps ++ [[]]) (by simp) (fun p h => by
    rcases List.mem_append.1 h with e | e
    · exact hp58 p e
    · rw [List.mem_singleton.1 e]; simp) (allp [] rfl)
  have c4 := bad_glue hW hh (ps := ps ++ [[48, 48, 48]]) (by simp) (fun p h => by
    rcases List.mem_append.1 h with e | e
    · exact hp58 p e
    · rw [List.mem_singleton.1 e]; decide) (allp [48, 48, 48] (by decide))
  rw [glue_snoc] at c3 c4
  obtain ⟨x, r, rfl, hx⟩ := hh
  have hx48 : 48 ≤ x.toNat := by omega
  have hd : ∀ qs : List (List UInt8), ∃ t, glue (x :: r) qs = x :: t := fun qs => by cases qs with
    | nil => exact ⟨_, rfl⟩
    | cons q qs => exact ⟨_, rfl⟩
  have none' : ∀ t : List UInt8, core11 (x :: t) = none → int11 (x :: t) = (⟨#[]⟩, 0) := fun t h => by unfold int11; rw [sg_dig hx48, h]
  obtain ⟨t1, e1⟩ := hd ps
  obtain ⟨t2, e2⟩ := hd qs
  have i1 : int11 (glue (x :: r) ps) = (num (m : Int), 6) := by
    rw [e1] at c1 ⊢; unfold int11; rw [sg_dig hx48, c1]; rfl
  have i2 : int11 (glue (x :: r) qs) = (⟨#[]⟩, 0) := by rw [e2] at c2 ⊢; exact none' _ c2
  have i3 : int11 (glue (x :: r) ps ++ [58]) = (⟨#[]⟩, 0) := by
    have c3 : core11 (glue (x :: r) ps ++ [58]) = none := c3
    rw [e1] at c3 ⊢; exact none' _ c3
  have i4 : int11 (glue (x :: r) ps ++ [58, 48, 48, 48]) = (⟨#[]⟩, 0) := by
    have c4 : core11 (glue (x :: r) ps ++ [58, 48, 48, 48]) = none := c4
    rw [e1] at c4 ⊢; exact none' _ c4
  have i5 : int11 (58 :: glue (x :: r) ps) = (⟨#[]⟩, 0) := by
    have hc : core11 (58 :: glue (x :: r) ps) = none := by
      unfold core11
      rw [if_neg (by rw [e1]; simp), if_neg (by rw [e1]; simp), if_neg (by simp), if_neg (by simp), if_neg]
      rintro ⟨y, hy, hy2⟩
      have : y = 58 := by simpa using hy.symm
      subst this
      exact absurd hy2.2 (by decide)
    unfold int11
    rw [show sg (58 :: glue (x :: r) ps) = ([], 58 :: glue (x :: r) ps) from rfl, hc]
  have i0 : int11 ((if neg then [45] else []) ++ glue (x :: r) ps) = (txt ((if neg then [45] else []) ++ decDigits m), 6) := by
    cases neg with
    | false => show int11 (glue (x :: r) ps) = (txt (decDigits m), 6); rw [i1, num_nat]
    | true =>
      show int11 (45 :: glue (x :: r) ps) = (txt (45 :: decDigits m), 6)
      unfold int11
      rw [sg_sign (.inr rfl), c1, ← num_neg m hm1]; rfl
  have ls : ((if neg then [45] else []) : List UInt8).length ≤ 1 := by cases neg <;> decide
  obtain ⟨S, hS⟩ : ∃ S, glue (x :: r) ps = S := ⟨_, rfl⟩
  rw [hS] at i0 i1 i3 i4 i5 sz1 ⊢
  have o0 := Of_eq ((if neg then [45] else []) ++ S) (by rw [List.length_append]; omega) k (by omega)
  have o1 := Form_eq S (by omega)
  have o2 := Form_eq (glue (x :: r) qs) (by omega)
  have o3 := Is_eq (S ++ [58]) (by rw [List.length_append]; simp; omega)
  have o4 := Is_eq (S ++ [58, 48, 48, 48]) (by rw [List.length_append]; simp; omega)
  have o5 := Is_eq (58 :: S) (by rw [List.length_cons]; omega)
  rw [i0] at o0
  rw [i1] at o1
  rw [i2] at o2
  rw [i3] at o3
  rw [i4] at o4
  rw [i5] at o5
  simp only [targumlaw6_Int11Sixty.j3]
  rw [txt_size, txt_size, if_pos (by omega), app_txt, o0, Option.bind_some, if_pos (show decide ((6 : Int) > 0) = true by decide), if_pos rfl, o1, Option.bind_some, if_pos rfl, o2, Option.bind_some, if_pos rfl, if_pos (by omega), show (⟨#[58]⟩ : ByteArray) = txt [58] from rfl, app_txt, o3, Option.bind_some, if_neg (by decide), if_pos (by omega), app_txt, show [58] ++ S = 58 :: S from rfl, o5, Option.bind_some, if_neg (by decide), if_pos (by omega), show (⟨#[58, 48, 48, 48]⟩ : ByteArray) = txt [58, 48, 48, 48] from rfl, app_txt, o4, Option.bind_some]
  rfl
theorem okp_ {p : Nat} (hp60 : p < 60) : okPart (decDigits p) = true := okPart_of (dec_digs p) (dec_ne p) (dec_two (by omega)) (by rw [dec_val]; exact hp60)
theorem okz_ {p : Nat} (h : p < 10) : okPart (48 :: decDigits p) = true := okPart_of (fun x hx => by
  rcases List.mem_cons.1 hx with e | e
  · subst e; exact ⟨by decide, by decide⟩
  · exact dec_digs p x e) (by simp) (by have := dec_one h; rw [List.length_cons]; omega) (by rw [val_cons, dec_val, show dv 48 = 0 from rfl, Nat.mul_zero]; omega)
theorem bad_ {c : Nat} (hc : c < 40) : okPart (decDigits (60 + c)) = false := by
  cases h : okPart (decDigits (60 + c)) with
  | false => rfl
  | true => have := okPart_val h; rw [dec_val] at this; omega
theorem bound_ (m p M i : Nat) (h : m < 100000 * 60 ^ i) (hp : p < 60) (hM : m * 60 + p = M) : M < 100000 * 60 ^ (i + 1) := by
  rw [Nat.pow_succ, ← Nat.mul_assoc]
  generalize 100000 * 60 ^ i = Q at h ⊢
  omega
theorem six_wraps (m p M : Nat) (hm : m < 5000000000000000) (hp : p < 60) (h : m * 60 + p = M) : wrap64 (wrap64 (60 * (m : Int)) + (p : Int)) = (M : Int) := by
  rw [wrap_id (x := 60 * (m : Int)) (by omega) (by omega), wrap_id (x := 60 * (m : Int) + (p : Int)) (by omega) (by omega)]
  omega
theorem sixty_l0 {W : List UInt8} (hW : Digs W) (hh : ∃ x r, W = x :: r ∧ 49 ≤ x.toNat) (hWl : W.length ≤ 5) (L : List Int) (hL0 : 1 ≤ L.length) (hL : L.length ≤ 6) (hw : ∀ x ∈ L, 0 ≤ x ∧ x ≤ 255) (neg : Bool) (b : Int) (hb0 : 0 ≤ b) (hb1 : b ≤ 255) (B : Nat) (hB : Int.tmod b (L.length : Int) = B) (hBl : B < L.length) (k : Nat) (hk : 5000 ≤ k) :
    ∀ (d i m : Nat) (ps qs : List (List UInt8)), i + d = L.length → ps.length = i → qs.length = i → (∀ p ∈ ps, okPart p = true) → (∀ p ∈ qs, 58 ∉ p ∧ p.length ≤ 2) → (B < i → qs.all okPart = false) → sixW ps (val W) = some m → 1 ≤ m → m < 100000 * 60 ^ i →
    targumlaw6_Int11Sixty.l0 (k + 4 + 2 * d) L neg b (txt (glue W ps)) (m : Int) (txt (glue W qs)) (i : Int) = some true := by
  have p6 : (60 : Nat) ^ 6 = 46656000000 := by decide
  intro d
  induction d with
  | zero =>
    intro i m ps qs hi h1 h2 h3 h4 h5 h6 h7 h8
    have hpw : 60 ^ i ≤ 60 ^ 6 := Nat.pow_le_pow_right (by decide) (by omega)
    have hne : ∀ xs : List (List UInt8), xs.length = i → xs ≠ [] := fun xs hx e => by rw [e] at hx; simp at hx; omega
    have j3 := sixty_j3 hW hh hWl (hne ps h1) (hne qs h2) h3 (fun p hp => (h4 p hp).1) (h5 (by omega)) (by omega) (by omega) (fun p hp => (h4 p hp).2) m h6 h7 neg (k + 2) (by omega)
    have t20 : (10 : Nat) ^ (19 + 1) = 100000000000000000000 := by decide
    have hdl : (decDigits m).length ≤ 20 := by rw [decDigits_length]; exact nDigits_le 19 _ (by rw [t20]; omega)
    show targumlaw6_Int11Sixty.l0 (k + 3 + 1) _ _ _ _ _ _ _ = _
    simp only [targumlaw6_Int11Sixty.l0]
    rw [if_neg (by omega), rText_eq m (by omega) (k + 3) (by omega), Option.bind_some]
    cases neg with
    | true =>
      rw [if_pos rfl, txt_size, if_pos (by omega), show (⟨#[45]⟩ : ByteArray) = txt [45] from rfl, app_txt]
      exact j3
    | false =>
      rw [if_neg Bool.false_ne_true]
      exact j3
  | succ d ih =>
    intro i m ps qs hi h1 h2 h3 h4 h5 h6 h7 h8
    have hpw : 60 ^ i ≤ 60 ^ 6 := Nat.pow_le_pow_right (by decide) (by omega)
    have hps := glue_len ps W 2 (fun p h => okPart_len (h3 p h))
    have hqs := glue_len qs W 2 (fun p h => (h4 p h).2)
    have hlt : i < L.length := by omega
    have hid : i + 1 + d = L.length := by omega
    have hBi_ : i ≤ B → B < i + 1 → B = i := fun a b => by omega
    have hne_ : ¬ (i : Int) = (B : Int) → ¬ B = i := fun a b => a (by omega)
    have big : ∀ a b : Nat, a ≤ 200 → b ≤ 200 → a + b ≤ 9223372036854775807 := fun a b h1 h2 => by omega
    have hL_ : ¬ (L.length : Int) = 0 := by omega
    have hi1_ : (i : Int) < (L.length : Int) := by omega
    have hi2_ : 0 ≤ (i : Int) := by omega
    have hkf1 : 20 ≤ k + 4 + 2 * d + 1 := by omega
    have hkk : k + 4 + 2 * (d + 1) = k + 4 + 2 * d + 1 + 1 := by omega
    have h10_ : ∀ z : Nat, (z : Int) < 10 → z < 10 := fun z h => by omega
    have hkf : 20 ≤ k + 4 + 2 * d := by omega
    have hps30 : (glue W ps).length ≤ 100 := by have := glue_len ps W 2 (fun p h => okPart_len (h3 p h)); omega
    have hqs30 : (glue W qs).length ≤ 100 := by have := glue_len qs W 2 (fun p h => (h4 p h).2); omega
    have hcast : ((i + 1 : Nat) : Int) = (i : Int) + 1 := by omega
    have he : rd L (i : Int) = L[i] := by
      unfold rd
      rw [Int.toNat_natCast, List.getD_eq_getElem?_getD, List.getElem?_eq_getElem hlt]; rfl
    have hr := hw L[i] (List.getElem_mem hlt)
    obtain ⟨v, hv⟩ : ∃ v : Nat, L[i] = v := ⟨L[i].toNat, by omega⟩
    rw [hv] at he hr
    obtain ⟨p, hp⟩ : ∃ p : Nat, Int.tmod (v : Int) 60 = p := ⟨v % 60, by rw [Int.tmod_eq_emod_of_nonneg (by omega)]; rfl⟩
    have hp60 : p < 60 := by rw [Int.tmod_eq_emod_of_nonneg (by omega)] at hp; omega
    obtain ⟨c, hc⟩ : ∃ c : Nat, Int.tmod b 40 = c := ⟨(Int.tmod b 40).toNat, by rw [Int.tmod_eq_emod_of_nonneg hb0]; omega⟩
    have hc40 : c < 40 := by rw [Int.tmod_eq_emod_of_nonneg hb0] at hc; omega
    have hwp : wrap64 (p : Int) = p := wrap_id (by omega) (by omega)
    have hwb : wrap64 b = b := wrap_id (by omega) (by omega)
    have hcc : ((60 + c : Nat) : Int) = 60 + (c : Int) := by clear h8 hpw; omega
    have hwc : wrap64 (60 + (c : Int)) = ((60 + c : Nat) : Int) := by rw [hcc]; exact wrap_id (by clear h8 hpw; omega) (by clear h8 hpw; omega)
    have hmm : m < 5000000000000000 := Nat.lt_of_lt_of_le h8 (Nat.le_trans (Nat.mul_le_mul_left _ hpw) (by rw [p6]; decide))
    obtain ⟨M, hM⟩ : ∃ M : Nat, m * 60 + p = M := ⟨_, rfl⟩
    have hwm := six_wraps m p M hmm hp60 hM
    have hwi : wrap64 ((i : Int) + 1) = (i : Int) + 1 := wrap_id (by omega) (by omega)
    have okp := okp_ hp60
    have okz := @okz_ p
    have bad := bad_ hc40
    have hMb := bound_ m p M i h8 hp60 hM
    have hM1 : 1 ≤ M := by rw [← hM]; exact Nat.le_trans h7 (Nat.le_trans (Nat.le_mul_of_pos_right m (by decide)) (Nat.le_add_right _ _))
    have hnext : ∀ (two q : List UInt8), okPart two = true → val two = p → 58 ∉ q → q.length ≤ 2 → (B = i → okPart q = false) →
        targumlaw6_Int11Sixty.l0 (k + 4 + 2 * d) L neg b (txt (glue W (ps ++ [two]))) (M : Int) (txt (glue W (qs ++ [q]))) ((i : Int) + 1) = some true := fun two q ht hvt hq hq2 hqb => by
      have := ih (i + 1) M (ps ++ [two]) (qs ++ [q]) hid (by rw [List.length_append, h1]; rfl) (by rw [List.length_append, h2]; rfl) (fun z hz => by
        rcases List.mem_append.1 hz with e | e
        · exact h3 z e
        · rw [List.mem_singleton.1 e]; exact ht) (fun z hz => by
        rcases List.mem_append.1 hz with e | e
        · exact h4 z e
        · rw [List.mem_singleton.1 e]; exact ⟨hq, hq2⟩) (fun hBi => by
        rw [List.all_append]
        rcases Nat.lt_or_ge B i with g | g
        · rw [h5 g]; rfl
        · show (_ && (okPart q && true)) = false
          rw [hqb (hBi_ g hBi)]; simp) (by rw [sixW_snoc ps _ m two h6 ht, hvt, hM]) hM1 hMb
      rw [hcast] at this
      exact this
    have dl2 : (decDigits p).length ≤ 2 := dec_two (Nat.lt_trans hp60 (by decide))
    have dc2 : (decDigits (60 + c)).length ≤ 2 := dec_two (show 60 + c < 60 + 40 from Nat.add_lt_add_left hc40 60)
    have hp9 : p ≤ 9223372036854775807 := Nat.le_trans (Nat.le_of_lt hp60) (by decide)
    have hc9 : 60 + c ≤ 9223372036854775807 := Nat.le_trans (Nat.add_le_add_left (Nat.le_of_lt hc40) 60) (by decide)
    have J : ∀ (two : List UInt8) (z : Bool), two = (if z then 48 :: decDigits p else decDigits p) → okPart two = true → val two = p → targumlaw6_Int11Sixty.j2 (k + 4 + 2 * d + 1) L neg b (txt (glue W ps)) (m : Int) (txt (glue W qs)) (i : Int) (p : Int) (txt (decDigits p)) z = some true := fun two z h2z ht hvt => by
      have htl := okPart_len ht
      have tp := rText_eq p hp9 (k + 4 + 2 * d) hkf
      have tc := rText_eq (60 + c) hc9 (k + 4 + 2 * d) hkf
      have n1 := hnext two (decDigits (60 + c)) ht hvt (digs_no58 (dec_digs _)) dc2 (fun _ => bad)
      have n2 : ¬ (i : Int) = (B : Int) → _ := fun hne => hnext two (decDigits p) ht hvt (digs_no58 (dec_digs _)) dl2 (fun e => absurd e (hne_ hne))
      rw [glue_snoc, glue_snoc] at n1
      have g1 : txt (glue W ps) ++ (⟨#[58]⟩ : ByteArray) = txt (glue W ps ++ [58]) := app_txt _ [58]
      have g2 : txt (glue W qs) ++ (⟨#[58]⟩ : ByteArray) = txt (glue W qs ++ [58]) := app_txt _ [58]
      have g3 : (⟨#[48]⟩ : ByteArray) ++ txt (decDigits p) = txt (48 :: decDigits p) := app_txt [48] _
      have e1 : glue W ps ++ [58] ++ two = glue W ps ++ 58 :: two := by simp
      have e2 : ∀ q : List UInt8, glue W qs ++ [58] ++ q = glue W qs ++ 58 :: q := fun q => by simp
      have s1 : (glue W ps ++ [58]).length ≤ 200 := by rw [List.length_append, List.length_singleton]; exact Nat.le_trans (Nat.add_le_add_right hps30 1) (by decide)
      have s2 : (glue W qs ++ [58]).length ≤ 200 := by rw [List.length_append, List.length_singleton]; exact Nat.le_trans (Nat.add_le_add_right hqs30 1) (by decide)
      have d1 : (decDigits p).length ≤ 200 := Nat.le_trans dl2 (by decide)
      have d2 : (decDigits (60 + c)).length ≤ 200 := Nat.le_trans dc2 (by decide)
      have u1 := big _ 1 (Nat.le_trans hps30 (by decide)) (by decide)
      have u2 := big _ 1 (Nat.le_trans hqs30 (by decide)) (by decide)
      have u3 := big 1 _ (by decide) d1
      have u4 := big _ _ s2 d2
      have u5 := big _ _ s2 d1
      have u6 := big _ _ s1 d1
      simp only [targumlaw6_Int11Sixty.j2]
      rw [hwb, hB, hc, hwc, hwm, hwi, tp, tc, g1, g2, g3]
      simp only [Option.bind_some, txt_size, app_txt]
      have t3 : (48 :: decDigits p).length ≤ 200 := by rw [List.length_cons]; exact Nat.le_trans (Nat.add_le_add_right dl2 1) (by decide)
      have u7 := big _ _ s1 t3
      cases z with
      | true =>
        have h2z : two = 48 :: decDigits p := h2z
        rw [if_pos rfl, if_pos u3, if_pos u1, if_pos u7, if_neg hL_, ← h2z, e1]
        by_cases hiB : (i : Int) = (B : Int)
        · rw [if_pos hiB, if_pos u2, if_pos u4, e2]; exact n1
        · have n2 := n2 hiB
          rw [glue_snoc, glue_snoc] at n2
          rw [if_neg hiB, if_pos u2, if_pos (by first | exact u5 | (rw [h2z]; exact u5)), e2]; exact n2
      | false =>
        have h2z : two = decDigits p := h2z
        rw [if_neg Bool.false_ne_true, if_pos u1, if_pos u6, if_neg hL_, ← h2z, e1]
        by_cases hiB : (i : Int) = (B : Int)
        · rw [if_pos hiB, if_pos u2, if_pos u4, e2]; exact n1
        · have n2 := n2 hiB
          rw [glue_snoc, glue_snoc, ← h2z] at n2
          rw [if_neg hiB, if_pos u2, if_pos (by first | exact u5 | (rw [h2z]; exact u5)), e2]; exact n2
    rw [hkk]
    simp only [targumlaw6_Int11Sixty.l0]
    rw [if_pos hi1_, if_pos hi2_, he, hp, hwp, rText_eq p hp9 _ hkf1, Option.bind_some]
    by_cases hp10 : (p : Int) < 10
    · rw [if_pos hp10]
      by_cases hbig : (v : Int) > 127
      · rw [decide_eq_true hbig]
        exact J _ true rfl (okz (h10_ p hp10)) (by show val (48 :: decDigits p) = p; rw [val_cons, dec_val, show dv 48 = 0 from rfl, Nat.mul_zero, Nat.add_zero])
      · rw [decide_eq_false hbig]
        exact J _ false rfl okp (dec_val p)
    · rw [if_neg hp10]
      exact J _ false rfl okp (dec_val p)
theorem Int11Sixty : targumlaw6_Int11Sixty.Pure := by
  intro a L neg b ha hL0 hL1 hw hb
  have a1 : 0 ≤ a ∧ a ≤ 65535 := by
    have : (decide (IntKind.u16.min ≤ a) && decide (a ≤ IntKind.u16.max)) = true := ha
    rw [Bool.and_eq_true, decide_eq_true_iff, decide_eq_true_iff] at this
    have p : IntKind.u16.min = 0 := rfl
    have q : IntKind.u16.max = 65535 := rfl
    omega
  have u8 : ∀ x : Int, (Lit.int .u8 x).wf = true → 0 ≤ x ∧ x ≤ 255 := fun x hx => by
    have : (decide (IntKind.u8.min ≤ x) && decide (x ≤ IntKind.u8.max)) = true := hx
    rw [Bool.and_eq_true, decide_eq_true_iff, decide_eq_true_iff] at this
    have p : IntKind.u8.min = 0 := rfl
    have q : IntKind.u8.max = 255 := rfl
    omega
  have b1 := u8 b hb
  have hw := fun x hx => u8 x (hw x hx)
  obtain ⟨n, rfl⟩ : ∃ n : Nat, a = n := ⟨a.toNat, by omega⟩
  obtain ⟨K, hK⟩ : ∃ K, K = 5000 := ⟨_, rfl⟩
  refine ⟨K + 4 + 2 * L.length + 1, ?_⟩
  have hk := known6 (K + 4 + 2 * L.length + 1) (by omega)
  have J1 : targumlaw6_Int11Sixty.j0 (K + 4 + 2 * L.length + 1) (n : Int) L neg b true = some true := by simp only [targumlaw6_Int11Sixty.j0, if_true]
  unfold targumlaw6_Int11Sixty.f
  rw [hk, Option.bind_some, if_pos rfl]
  by_cases c1 : (n : Int) = 0
  · rw [if_pos c1]; exact J1
  · rw [if_neg c1]
    by_cases c2 : (L.length : Int) < 1
    · rw [if_pos c2]; exact J1
    · rw [if_neg c2]
      by_cases c3 : (L.length : Int) > 6
      · rw [decide_eq_true c3]; exact J1
      · rw [decide_eq_false c3]
        obtain ⟨x, r, e, hx⟩ := dec_head n (by omega)
        have hxd : 48 ≤ x.toNat ∧ x.toNat ≤ 57 := dec_digs n x (by rw [e]; simp)
        have hx49 : 49 ≤ x.toNat := by
          rcases Nat.lt_or_ge x.toNat 49 with q | q
          · exact absurd (UInt8.toNat_inj.1 (show x.toNat = (48 : UInt8).toNat by show x.toNat = 48; omega)) hx
          · exact q
        have hWl : (decDigits n).length ≤ 5 := by rw [decDigits_length]; exact nDigits_le 4 _ (by omega)
        obtain ⟨B, hB⟩ : ∃ B : Nat, Int.tmod b (L.length : Int) = B := ⟨(Int.tmod b (L.length : Int)).toNat, by have := Int.tmod_nonneg (L.length : Int) b1.1; omega⟩
        have hBl : B < L.length := by
          have := Int.tmod_lt_of_pos b (show (0 : Int) < (L.length : Int) by omega)
          omega
        have := sixty_l0 (dec_digs n) ⟨x, r, e, hx49⟩ hWl L (by omega) (by omega) hw neg b b1.1 b1.2 B hB hBl K (by omega) L.length 0 n [] [] (by omega) rfl rfl (fun p hp => (List.not_mem_nil hp).elim) (fun p hp => (List.not_mem_nil hp).elim) (fun h => absurd h (by omega)) (by rw [dec_val]; rfl) (by omega) (by rw [Nat.pow_zero]; omega)
        simp only [targumlaw6_Int11Sixty.j0, Bool.false_eq_true, if_false]
        rw [wrap_id (x := (n : Int)) (by omega) (by omega), rText_eq n (by omega) _ (by omega), Option.bind_some]
        exact this
end Go.Proofs.YtkijneohhilboaaDoor.Pure
