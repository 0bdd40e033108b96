/- The pure law Int11Bases: one number's digits to any base, a _ between or not, are that number. No conditions. -/
import Derived.Test.YtkijneohhilboaaDoorInt11Law
import Derived.Test.YtkijneohhilboaaDoorPIx9
namespace Go.Proofs.YtkijneohhilboaaDoor.Pure
set_option linter.unusedSimpArgs false
set_option linter.unusedVariables false
open Go.RowKit Go.Lib Go.Proofs.YtkijneohhilboaaDoor.Room Go.Proofs.YtkijneohhilboaaDoor.PI Go.Proofs.YtkijneohhilboaaDoorW.PrintWords Go.Proofs.YtkijneohhilboaaDoor.Aid Go.Proofs.YtkijneohhilboaaDoor.Num Go.Proofs.YtkijneohhilboaaDoor.BigFns Go.Proofs.YtkijneohhilboaaDoor.BigQ Go.Proofs.YtkijneohhilboaaDoor.RefBig Go.Proofs.YtkijneohhilboaaDoor.DecSpec Go.Proofs.YtkijneohhilboaaDoor.NumSpec Go.Proofs.YtkijneohhilboaaDoor.IntSpec
theorem bval_cons (B : Nat) (x : UInt8) : ∀ (n : Nat) (l : List UInt8), l.length = n → bval B (x :: l) = digV x * B ^ n + bval B l
  | 0, l, h => by
    have : l = [] := List.length_eq_zero_iff.1 h
    subst this
    simp [bval]
  | n + 1, l, h => by
    have hne : l ≠ [] := fun e => by rw [e] at h; simp at h
    obtain ⟨l', y, rfl⟩ : ∃ l' y, l = l' ++ [y] := ⟨l.dropLast, l.getLast hne, (List.dropLast_concat_getLast hne).symm⟩
    have ih := bval_cons B x n l' (by rw [List.length_append, List.length_singleton] at h; omega)
    rw [← List.cons_append, bval_snoc, bval_snoc, ih, Nat.add_mul, Nat.pow_succ, Nat.mul_assoc, Nat.add_assoc]
def sig : List UInt8 := [48, 49, 50, 51, 52, 53, 54, 55, 56, 57, 97, 98, 99, 100, 101, 102]
theorem sig_all : ∀ v : Fin 16, (sig.take (v.val + 1)).drop v.val = [sig[v.val]!] ∧ digV sig[v.val]! = v.val ∧ (v.val < 10 → 48 ≤ (sig[v.val]!).toNat ∧ (sig[v.val]!).toNat ≤ 57) := by decide
theorem sig_cut (v : Nat) (h : v < 16) : ∃ x : UInt8, (⟨#[48, 49, 50, 51, 52, 53, 54, 55, 56, 57, 97, 98, 99, 100, 101, 102]⟩ : ByteArray).extract v (v + 1) = txt [x] ∧ digV x = v ∧ (v < 10 → isDig x) := by
  obtain ⟨h1, h2, h3⟩ := sig_all ⟨v, h⟩
  refine ⟨_, ?_, h2, h3⟩
  apply ext_list
  rw [show (⟨#[48, 49, 50, 51, 52, 53, 54, 55, 56, 57, 97, 98, 99, 100, 101, 102]⟩ : ByteArray) = txt sig from rfl, txt_list, ← h1]
  simp only [ByteArray.data_extract, Array.toList_extract, List.extract_eq_take_drop]
  rw [List.drop_take, show v + 1 - v = 1 by omega]
  rfl
theorem digV_dig {x : UInt8} (h : isDig x) : digV x = dv x := by
  unfold digV dv
  rw [if_pos (show 48 ≤ x.toNat ∧ x.toNat ≤ 57 from h)]
theorem bval_digs (l : List UInt8) (h : Digs l) : bval 10 l = val l := by
  suffices H : ∀ (n : Nat) (l : List UInt8), l.length = n → Digs l → bval 10 l = val l from H _ l rfl h
  intro n
  induction n with
  | zero => intro l hn _; rw [List.length_eq_zero_iff.1 hn]; rfl
  | succ n ih =>
    intro l hn hl
    have hne : l ≠ [] := fun e => by rw [e] at hn; simp at hn
    obtain ⟨l', y, rfl⟩ : ∃ l' y, l = l' ++ [y] := ⟨l.dropLast, l.getLast hne, (List.dropLast_concat_getLast hne).symm⟩
    rw [bval_snoc, val_snoc, ih l' (by rw [List.length_append, List.length_singleton] at hn; omega) (fun x hx => hl x (by simp [hx])), digV_dig (hl y (by simp))]
    omega
/-- a text whose digits to a base say a number -/
structure SaysG (B n : Nat) (s : List UInt8) : Prop where
  len : s.length ≤ 70
  ne : sift s ≠ []
  good : okG B s = true
  val : bval B (sift s) = n
  head : B = 10 → (n = 0 ∧ s = [48]) ∨ (n ≠ 0 ∧ ∃ x r, s = x :: r ∧ 49 ≤ x.toNat ∧ x.toNat ≤ 57)
def headB (B : Nat) : List UInt8 := if B = 2 then [48, 98] else if B = 16 then [48, 120] else if B = 8 then [48] else []
def formB (B : Nat) : Int := if B = 2 then 1 else if B = 16 then 2 else if B = 8 then 3 else 5
theorem SaysG.bare {B n : Nat} {s : List UInt8} (h : SaysG B n s) : bareL B s = some (sift s) := by
  unfold bareL; rw [if_pos ⟨h.good, h.ne⟩]
theorem SaysG.core {B n : Nat} {s : List UInt8} (hB : B = 2 ∨ B = 16 ∨ B = 8 ∨ B = 10) (h : SaysG B n s) : core11 (headB B ++ s) = some (n, if B = 10 ∧ n = 0 then 4 else formB B) := by
  have hb := h.bare
  rcases hB with e | e | e | e <;> subst e
  · show core11 (48 :: 98 :: s) = _
    unfold core11
    rw [if_pos (show List.take 2 ((48 : UInt8) :: 98 :: s) = [48, 98] from rfl), show List.drop 2 ((48 : UInt8) :: 98 :: s) = s from rfl, hb, if_neg (fun q => absurd q.1 (by decide))]
    show some (bval 2 (sift s), (1 : Int)) = _
    rw [h.val]; rfl
  · show core11 (48 :: 120 :: s) = _
    unfold core11
    rw [if_neg (show ¬ List.take 2 ((48 : UInt8) :: 120 :: s) = [48, 98] by simp), if_pos (show List.take 2 ((48 : UInt8) :: 120 :: s) = [48, 120] from rfl), show List.drop 2 ((48 : UInt8) :: 120 :: s) = s from rfl, hb, if_neg (fun q => absurd q.1 (by decide))]
    show some (bval 16 (sift s), (2 : Int)) = _
    rw [h.val]; rfl
  · show core11 (48 :: s) = _
    obtain ⟨x, r, rfl⟩ : ∃ x r, s = x :: r := by
      cases s with
      | nil => exact absurd rfl h.ne
      | cons x r => exact ⟨x, r, rfl⟩
    have hx := h.good
    rw [okG_cons] at hx
    have hx1 := (Bool.and_eq_true _ _ ▸ hx).1
    have n1 : x ≠ 98 := fun e => by subst e; exact absurd hx1 (by decide)
    have n2 : x ≠ 120 := fun e => by subst e; exact absurd hx1 (by decide)
    unfold core11
    rw [if_neg (show ¬ List.take 2 ((48 : UInt8) :: x :: r) = [48, 98] by simp [n1]), if_neg (show ¬ List.take 2 ((48 : UInt8) :: x :: r) = [48, 120] by simp [n2]), if_neg (by simp), if_pos (show List.head? ((48 : UInt8) :: x :: r) = some 48 from rfl), show List.drop 1 ((48 : UInt8) :: x :: r) = x :: r from rfl, hb, if_neg (fun q => absurd q.1 (by decide))]
    show some (bval 8 (sift (x :: r)), (3 : Int)) = _
    rw [h.val]; rfl
  · show core11 s = _
    rcases h.head rfl with ⟨h0, hs⟩ | ⟨h0, x, r, rfl, h1, h2⟩
    · rw [hs, h0, if_pos ⟨rfl, rfl⟩]; decide
    · have hx : x ≠ 48 := fun e => by subst e; exact absurd h1 (by decide)
      have ht : ∀ b : UInt8, List.take 2 (x :: r) ≠ [48, b] := fun b q => hx (by simpa using congrArg List.head? q)
      unfold core11
      rw [if_neg (ht _), if_neg (ht _), if_neg (by simp [hx]), if_neg (by simp [hx]), if_pos ⟨x, by simp, h1, h2⟩, hb, if_neg (fun q => h0 q.2)]
      obtain ⟨e1, e2, e3, e4⟩ := bareL_ok hb
      show some (Go.Proofs.YtkijneohhilboaaDoor.Num.val (sift (x :: r)), (5 : Int)) = _
      rw [← bval_digs _ (goodB_digs e4), h.val]; rfl
theorem bases_j5 (B : Nat) (hB : B = 2 ∨ B = 16 ∨ B = 8 ∨ B = 10) (n : Nat) (hn : n < 4294967296) (neg : Bool) (s : List UInt8) (h : SaysG B n s) (k : Nat) (hk : 5000 ≤ k) :
    targumlaw6_Int11Bases.j4 (k + 2) (n : Int) neg (txt (headB B)) (if B = 10 ∧ n = 0 then 4 else formB B) (txt s) = some true := by
  have hlen := h.len
  have hc := h.core hB
  have hhl : (headB B).length ≤ 2 := by rcases hB with e | e | e | e <;> (subst e; decide)
  have dl : (decDigits n).length ≤ 10 := by rw [decDigits_length]; exact nDigits_le 9 _ (by omega)
  have hh : (headB B ++ s).length ≤ 72 := by rw [List.length_append]; omega
  obtain ⟨x0, r0, hx0, hx1⟩ : ∃ x r, headB B ++ s = x :: r ∧ 48 ≤ x.toNat := by
    rcases hB with e | e | e | e <;> subst e
    · exact ⟨48, _, rfl, by decide⟩
    · exact ⟨48, _, rfl, by decide⟩
    · exact ⟨48, _, rfl, by decide⟩
    · rcases h.head rfl with ⟨_, hs⟩ | ⟨_, x, r, hs, h1, _⟩
      · exact ⟨48, [], by rw [hs]; rfl, by decide⟩
      · exact ⟨x, r, hs, by omega⟩
  have hs0 : sg (headB B ++ s) = ([], headB B ++ s) := by
    rw [hx0]; unfold sg; dsimp only
    rw [if_neg]
    rintro (e | e) <;> (subst e; exact absurd hx1 (by decide))
  have f0 : int11 (headB B ++ s) = (num (n : Int), if B = 10 ∧ n = 0 then 4 else formB B) := by
    unfold int11
    rw [hs0, hc]; rfl
  have fpos : (if B = 10 ∧ n = 0 then (4 : Int) else formB B) > 0 := by
    split
    · decide
    · rcases hB with e | e | e | e <;> (subst e; decide)
  obtain ⟨F, hF⟩ : ∃ F, (if B = 10 ∧ n = 0 then (4 : Int) else formB B) = F := ⟨_, rfl⟩
  rw [hF] at hc f0 fpos ⊢
  have sgn : ∀ (sn : UInt8), (sn = 43 ∨ sn = 45) → int11 (sn :: (headB B ++ s)) = (num (if sn = 45 then -(n : Int) else (n : Int)), F) := fun sn hsn => by
    unfold int11
    rw [sg_sign hsn, hc]
    rcases hsn with e | e <;> (subst e; rfl)
  have e0 := Of_eq (headB B ++ s) (by omega) k (by omega)
  have e1 := Form_eq (headB B ++ s) (by omega)
  rw [f0, decide_eq_true fpos] at e0
  rw [f0] at e1
  have tx := rText_eq n (by omega)
  have nm := rNorm_num neg n (by omega) (k + 1) (by omega)
  have go : ∀ sn : UInt8, (sn = if neg = true then 45 else 43) → targumlaw6_Int11Bases.j5 (k + 1) (n : Int) (txt (headB B)) F (txt s) (num (if neg = true then -(n : Int) else (n : Int))) (txt [sn]) = some true := fun sn hsn => by
    have hsn' : sn = 43 ∨ sn = 45 := by rw [hsn]; split; exact .inr rfl; exact .inl rfl
    have e2 := Of_eq (sn :: (headB B ++ s)) (by rw [List.length_cons]; omega) k (by omega)
    rw [sgn sn hsn', decide_eq_true fpos] at e2
    have hz : (if sn = 45 then -(n : Int) else (n : Int)) = if neg = true then -(n : Int) else (n : Int) := by
      rw [hsn]; cases neg <;> rfl
    rw [hz] at e2
    simp only [targumlaw6_Int11Bases.j5]
    rw [txt_size, txt_size, txt_size, show ([sn] : List UInt8).length = 1 from rfl, if_pos (by omega), app_txt, txt_size, if_pos (by rw [List.length_append, List.length_singleton]; omega), app_txt, show [sn] ++ headB B ++ s = sn :: (headB B ++ s) from rfl, e2, Option.bind_some, if_pos (by omega), app_txt, e0, Option.bind_some, if_pos rfl, if_pos rfl, if_pos rfl, wrap_id (x := (n : Int)) (by omega) (by omega), tx k (by omega), Option.bind_some, num_nat, if_pos rfl, e1, Option.bind_some, beq_self_eq_true]
  simp only [targumlaw6_Int11Bases.j4]
  rw [wrap_id (x := (n : Int)) (by omega) (by omega), tx (k + 1) (by omega), Option.bind_some, ← num_nat, nm, Option.bind_some]
  cases neg with
  | true => rw [if_pos rfl]; exact go 45 rfl
  | false => rw [if_neg Bool.false_ne_true]; exact go 43 rfl
theorem digit_more (B : Nat) (hB : 2 ≤ B ∧ B ≤ 16) (m : Nat) (hm : m < 4294967296) : ∃ x : UInt8, digV x = m % B ∧ (B = 10 → isDig x) ∧ Int.tmod (m : Int) (B : Int) = ((m % B : Nat) : Int) ∧ wrap64 (((m % B : Nat) : Int) + 1) = ((m % B : Nat) : Int) + 1 ∧ m % B < B ∧
    (⟨#[48, 49, 50, 51, 52, 53, 54, 55, 56, 57, 97, 98, 99, 100, 101, 102]⟩ : ByteArray).extract (((m % B : Nat) : Int)).toNat ((((m % B : Nat) : Int) + 1)).toNat = txt [x] ∧ wrap64 (Int.tdiv (m : Int) (B : Int)) = ((m / B : Nat) : Int) := by
  have hlt := Nat.mod_lt m (show 0 < B by omega)
  obtain ⟨x, x1, x2, x3⟩ := sig_cut (m % B) (by omega)
  have hd : m / B ≤ m := Nat.div_le_self _ _
  refine ⟨x, x2, fun e => x3 (by omega), by rw [Int.tmod_eq_emod_of_nonneg (by omega)]; rfl, wrap_id (by omega) (by omega), hlt, ?_, ?_⟩
  · rw [← x1]; congr 1
  · rw [Int.tdiv_eq_ediv_of_nonneg (by omega)]
    obtain ⟨u, hu⟩ : ∃ u, m / B = u := ⟨_, rfl⟩
    rw [show ((m : Int) / (B : Int)) = ((m / B : Nat) : Int) from rfl, hu]
    rw [hu] at hd
    exact wrap_id (by omega) (by omega)
theorem small (q B : Nat) (h : q < B) (h' : B ≤ 16) : 0 ≤ (q : Int) ∧ (q : Int) ≤ q + 1 ∧ (q : Int) + 1 ≤ 16 := by omega
/-- the loop's state: i digits put -/
structure Put (B n i m : Nat) (s : List UInt8) : Prop where
  cnt : (sift s).length = i
  good : okG B s = true
  val : m * B ^ i + bval B (sift s) = n
  len : s.length ≤ 2 * i
  m32 : m < 4294967296
  mi : i ≤ 33 ∧ m < 2 ^ (33 - i)
  head : 0 < i → ∃ x r, s = x :: r ∧ (B = 10 → isDig x) ∧ (m = 0 → n ≠ 0 → digV x ≠ 0)
  nought : n = 0 → m = 0 ∧ (0 < i → s = [48] ∧ i = 1)
theorem Put.more {B n i m : Nat} {s : List UInt8} (hB : 2 ≤ B ∧ B ≤ 16) (h : Put B n i m s) (hm : m > 0 ∨ i = 0) (x : UInt8) (hx : digV x = m % B) (hx10 : B = 10 → isDig x) (gap : Bool) (hg : gap = true → 0 < i) (h48 : m = 0 → x = 48) : Put B n (i + 1) (m / B) (x :: (if gap then 95 :: s else s)) := by
  have hlt := Nat.mod_lt m (show 0 < B by omega)
  have hx95 : x ≠ 95 := fun e => by
    subst e
    have : digV 95 = 16 := by decide
    omega
  have hs : sift (if gap then 95 :: s else s) = sift s := by
    cases gap with
    | true => show sift (95 :: s) = _; rw [sift_cons, if_pos rfl]
    | false => rfl
  have ho : okG B (if gap then 95 :: s else s) = true := by
    cases gap with
    | true => show okG B (95 :: s) = _; rw [okG_cons, h.good]; rfl
    | false => exact h.good
  have hi33 : i + 1 ≤ 33 := by
    rcases hm with hm | hm
    · have := h.mi.2
      rcases Nat.lt_or_ge i 33 with q | q
      · omega
      · rw [show 33 - i = 0 by omega, Nat.pow_zero] at this; omega
    · omega
  refine ⟨?_, ?_, ?_, ?_, Nat.lt_of_le_of_lt (Nat.div_le_self _ _) h.m32, ⟨hi33, ?_⟩, fun _ => ⟨x, _, rfl, hx10, ?_⟩, ?_⟩
  · rw [sift_cons, if_neg hx95, hs, List.length_cons, h.cnt]
  · rw [okG_cons, ho, decide_eq_true (show digV x < B by omega), Bool.or_true, Bool.true_and]
  · rw [sift_cons, if_neg hx95, hs, bval_cons B x i _ h.cnt, hx, ← h.val, Nat.pow_succ]
    have h2 := Nat.div_add_mod m B
    have h3 : m / B * (B ^ i * B) + m % B * B ^ i = (B * (m / B) + m % B) * B ^ i := by
      rw [Nat.add_mul]
      congr 1
      rw [Nat.mul_comm (B ^ i) B, ← Nat.mul_assoc, Nat.mul_comm (m / B) B]
    rw [h2] at h3
    omega
  · have := h.len
    cases gap <;> simp only [List.length_cons, if_true, Bool.false_eq_true, if_false] <;> omega
  · have h1 : m / B ≤ m / 2 := Nat.div_le_div_left hB.1 (by decide)
    have h2 := h.mi.2
    rw [show 33 - i = (33 - (i + 1)) + 1 by omega, Nat.pow_succ] at h2
    omega
  · intro hm0 hn
    rw [hx]
    have hmB : m < B := by
      rcases Nat.lt_or_ge m B with q | q
      · exact q
      · have := Nat.div_pos q (by omega); omega
    rw [Nat.mod_eq_of_lt hmB]
    intro e
    rcases hm with q | q
    · omega
    · subst q
      subst e
      have hs0 : sift s = [] := List.length_eq_zero_iff.1 h.cnt
      have := h.val
      rw [hs0] at this
      simp [bval] at this
      exact hn this.symm
  · intro hn
    obtain ⟨m0, hi⟩ := h.nought hn
    refine ⟨by rw [m0]; exact Nat.zero_div _, fun _ => ?_⟩
    have hi0 : i = 0 := by rcases hm with q | q; omega; exact q
    have hg0 : gap = false := by cases gap with | false => rfl | true => have := hg rfl; omega
    have hs0 : s = [] := List.length_eq_zero_iff.1 (by have := h.len; omega)
    rw [hg0, hs0, h48 m0, hi0]
    exact ⟨rfl, rfl⟩
theorem Put.says {B n i : Nat} {s : List UInt8} (h : Put B n i 0 s) (hi : 0 < i) : SaysG B n s := by
  refine ⟨by have := h.len; have := h.mi.1; omega, fun e => by have := h.cnt; rw [e] at this; simp at this; omega, h.good, by have := h.val; rw [Nat.zero_mul, Nat.zero_add] at this; exact this, fun hB => ?_⟩
  by_cases hn : n = 0
  · exact .inl ⟨hn, ((h.nought hn).2 hi).1⟩
  · obtain ⟨x, r, e, hx, hx0⟩ := h.head hi
    have hd : 48 ≤ x.toNat ∧ x.toNat ≤ 57 := hx hB
    have h0 := hx0 rfl hn
    refine .inr ⟨hn, x, r, e, ?_, hd.2⟩
    unfold digV at h0
    rw [if_pos hd] at h0
    omega
theorem bases11_l0 (B : Nat) (hB : B = 2 ∨ B = 16 ∨ B = 8 ∨ B = 10) (n : Nat) (hn : n < 4294967296) (neg : Bool) (g : Int) (hg0 : 0 ≤ g) (hg1 : g ≤ 255) (k : Nat) (hk : 5000 ≤ k) : ∀ (d i m : Nat) (s : List UInt8), i + d = 34 → Put B n i m s →
    targumlaw6_Int11Bases.l0 (k + 10 + 2 * d) (n : Int) neg g (B : Int) (txt (headB B)) (formB B) (txt s) (m : Int) (i : Int) = some true := by
  have hB2 : 2 ≤ B ∧ B ≤ 16 := by omega
  have hB0 : ¬ (B : Int) = 0 := by omega
  obtain ⟨G, hG⟩ : ∃ G, Int.tmod g 12 = G := ⟨_, rfl⟩
  have hG0 : 0 ≤ G ∧ G < 12 := by rw [← hG, Int.tmod_eq_emod_of_nonneg hg0]; omega
  intro d
  induction d with
  | zero => intro i m s hi h; have := h.mi.1; omega
  | succ d ih =>
    intro i m s hi h
    have hlen := h.len
    have hmi := h.mi.1
    rw [show k + 10 + 2 * (d + 1) = k + 10 + 2 * d + 1 + 1 by omega]
    have J : (m > 0 ∨ i = 0) → targumlaw6_Int11Bases.j2 (k + 10 + 2 * d + 1) (n : Int) neg g (B : Int) (txt (headB B)) (formB B) (txt s) (m : Int) (i : Int) true = some true := fun hm => by
      have hid : i + 1 + d = 34 := by omega
      have hcast : ((i + 1 : Nat) : Int) = (i : Int) + 1 := by omega
      have hw : wrap64 ((i : Int) + 1) = (i : Int) + 1 := wrap_id (by omega) (by omega)
      have z2 : 1 + s.length ≤ 9223372036854775807 := by omega
      have z3 : (95 :: s).length ≤ 100 := by rw [List.length_cons]; omega
      have z4 : s.length ≤ 100 := by omega
      have eG : wrap64 G = G := wrap_id (by omega) (by omega)
      have gi : (i : Int) > 0 → 0 < i := fun q => by omega
      obtain ⟨x, x1, x2, x3, x4, x5, x6, x7⟩ := digit_more B hB2 m h.m32
      obtain ⟨f1, f2, f3⟩ := small _ _ x5 hB2.2
      have z1 : ∀ u : List UInt8, u.length ≤ 100 → ([x] : List UInt8).length + u.length ≤ 9223372036854775807 := fun u hu => by clear x1 x2 x3 x4 x5 x6 x7 f1 f2 f3; rw [List.length_singleton]; omega
      have h48 : m = 0 → x = 48 := fun e => by
        subst e
        have hcut : (⟨#[48, 49, 50, 51, 52, 53, 54, 55, 56, 57, 97, 98, 99, 100, 101, 102]⟩ : ByteArray).extract (((0 % B : Nat) : Int)).toNat ((((0 % B : Nat) : Int) + 1)).toNat = txt [48] := by rw [Nat.zero_mod]; rfl
        rw [hcut] at x6
        have := congrArg (fun z : ByteArray => z.data.toList) x6
        simp only [txt_list] at this
        exact ((List.cons.inj this).1).symm
      have step : ∀ gap : Bool, (gap = true → 0 < i) → targumlaw6_Int11Bases.l0 (k + 10 + 2 * d) (n : Int) neg g (B : Int) (txt (headB B)) (formB B) (txt (x :: (if gap then 95 :: s else s))) ((m / B : Nat) : Int) ((i : Int) + 1) = some true := fun gap hg => by
        have := ih (i + 1) (m / B) _ hid (h.more hB2 hm x x1 x2 gap hg h48)
        rw [hcast] at this
        exact this
      have g1 := step true
      have g2 := step false (fun h => by cases h)
      clear step ih
      simp only [targumlaw6_Int11Bases.j2]
      rw [if_pos trivial, hG, eG, x3, x4, x6, x7, hw, if_neg hB0, if_pos f1, if_pos f2, if_pos f3, txt_size, txt_size, show (⟨#[95]⟩ : ByteArray) = txt [95] from rfl, app_txt, txt_size, show [95] ++ s = 95 :: s from rfl, app_txt, app_txt, if_pos (z1 _ z3), if_pos (z1 _ z4), if_pos z2]
      by_cases hi0 : (i : Int) > 0
      · rw [if_pos hi0]
        by_cases hgi : (i : Int) = G
        · rw [if_pos hgi]
          exact g1 (fun _ => gi hi0)
        · rw [if_neg hgi, if_neg hB0, if_pos f1, if_pos f2, if_pos f3]
          exact g2
      · rw [if_neg hi0, if_neg hB0, if_pos f1, if_pos f2, if_pos f3]
        exact g2
    simp only [targumlaw6_Int11Bases.l0]
    by_cases hm : (m : Int) > 0
    · rw [if_pos hm]
      exact J (.inl (by omega))
    · rw [if_neg hm]
      by_cases hi0 : i = 0
      · rw [show ((i : Int) == 0) = true by rw [hi0]; rfl]
        exact J (.inr hi0)
      · have hm0 : m = 0 := by omega
        subst hm0
        have says := h.says (by omega)
        have fin := bases_j5 B hB n hn neg s says (k + 6 + 2 * d) (by omega)
        rw [show ((i : Int) == 0) = false from beq_eq_false_iff_ne.2 (by omega)]
        simp only [targumlaw6_Int11Bases.j2, Bool.false_eq_true, if_false]
        have j3 : ∀ b : Bool, b = decide (B = 10 ∧ n = 0) → targumlaw6_Int11Bases.j3 (k + 10 + 2 * d) (n : Int) neg (txt (headB B)) (formB B) (txt s) b = some true := fun b hb => by
          rw [show k + 10 + 2 * d = k + 9 + 2 * d + 1 by omega]
          simp only [targumlaw6_Int11Bases.j3]
          rw [show k + 6 + 2 * d + 2 = k + 8 + 2 * d by omega] at fin
          have fin' := fin
          rw [hb]
          by_cases hq : B = 10 ∧ n = 0
          · rw [decide_eq_true hq, if_pos rfl]
            rw [if_pos hq] at fin
            have := bases_j5 B hB n hn neg s says (k + 7 + 2 * d) (by omega)
            rw [if_pos hq, show k + 7 + 2 * d + 2 = k + 9 + 2 * d by omega] at this
            exact this
          · rw [decide_eq_false hq, if_neg Bool.false_ne_true]
            have := bases_j5 B hB n hn neg s says (k + 7 + 2 * d) (by omega)
            rw [if_neg hq, show k + 7 + 2 * d + 2 = k + 9 + 2 * d by omega] at this
            exact this
        by_cases h10 : (B : Int) = 10
        · rw [if_pos h10]
          refine j3 _ ?_
          by_cases hn0 : n = 0
          · rw [hn0, decide_eq_true ⟨by omega, rfl⟩]; rfl
          · rw [decide_eq_false (fun q => hn0 q.2)]
            exact beq_eq_false_iff_ne.2 (by omega)
        · rw [if_neg h10]
          exact j3 false (by rw [decide_eq_false (fun q => h10 (by rw [q.1]; rfl))])
theorem Int11Bases : targumlaw6_Int11Bases.Pure := by
  intro a b neg c ha hb hc
  have a1 : 0 ≤ a ∧ a ≤ 4294967295 := by
    have : (decide (IntKind.u32.min ≤ a) && decide (a ≤ IntKind.u32.max)) = true := ha
    rw [Bool.and_eq_true, decide_eq_true_iff, decide_eq_true_iff] at this
    have p : IntKind.u32.min = 0 := rfl
    have q : IntKind.u32.max = 4294967295 := rfl
    omega
  have c1 : 0 ≤ c ∧ c ≤ 255 := by
    have : (decide (IntKind.u8.min ≤ c) && decide (c ≤ IntKind.u8.max)) = true := hc
    rw [Bool.and_eq_true, decide_eq_true_iff, decide_eq_true_iff] at this
    have p : IntKind.u8.min = 0 := rfl
    have q : IntKind.u8.max = 255 := rfl
    omega
  obtain ⟨n, rfl⟩ : ∃ n : Nat, a = n := ⟨a.toNat, by omega⟩
  obtain ⟨K, hK⟩ : ∃ K, K = 5000 := ⟨_, rfl⟩
  have h33 : (2 : Nat) ^ 33 = 8589934592 := by decide
  have go : ∀ B : Nat, (B = 2 ∨ B = 16 ∨ B = 8 ∨ B = 10) → targumlaw6_Int11Bases.j0 (K + 10 + 2 * 34 + 1) (n : Int) neg c (B : Int) (txt (headB B)) (formB B) = some true := fun B hB => by
    simp only [targumlaw6_Int11Bases.j0]
    rw [wrap_id (by omega) (by omega)]
    exact bases11_l0 B hB n (by omega) neg c c1.1 c1.2 K (by omega) 34 0 n [] (by omega) ⟨rfl, rfl, by rw [Nat.pow_zero, Nat.mul_one]; rfl, Nat.le_refl 0, by omega, ⟨by omega, by rw [Nat.sub_zero, h33]; omega⟩, fun h => absurd h (by decide), fun h => ⟨h, fun q => absurd q (by decide)⟩⟩
  refine ⟨K + 10 + 2 * 34 + 1, ?_⟩
  have hk := known6 (K + 10 + 2 * 34 + 1) (by omega)
  unfold targumlaw6_Int11Bases.f
  rw [hk, Option.bind_some, if_pos rfl]
  by_cases h1 : Int.tmod b 4 = 0
  · rw [if_pos h1]; exact go 2 (.inl rfl)
  · rw [if_neg h1]
    by_cases h2 : Int.tmod b 4 = 1
    · rw [if_pos h2]; exact go 16 (.inr (.inl rfl))
    · rw [if_neg h2]
      by_cases h3 : Int.tmod b 4 = 2
      · rw [if_pos h3]; exact go 8 (.inr (.inr (.inl rfl)))
      · rw [if_neg h3]; exact go 10 (.inr (.inr (.inr rfl)))
end Go.Proofs.YtkijneohhilboaaDoor.Pure
