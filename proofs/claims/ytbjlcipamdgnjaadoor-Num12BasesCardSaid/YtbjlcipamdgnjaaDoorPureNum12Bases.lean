/- The pure law Num12Bases: one number's digits to the base 8, 10 or 16 are that number. No conditions. -/
import Derived.Test.YtbjlcipamdgnjaaDoorNum12Law
import Derived.Test.YtbjlcipamdgnjaaDoorPNx16
namespace Go.Proofs.YtbjlcipamdgnjaaDoor.Pure
set_option linter.unusedSimpArgs false
set_option linter.unusedVariables false
open Go.RowKit Go.Lib Go.Proofs.YtbjlcipamdgnjaaDoor.Room Go.Proofs.YtbjlcipamdgnjaaDoor.PN Go.Proofs.YtbjlcipamdgnjaaDoorW.PrintWords Go.Proofs.YtbjlcipamdgnjaaDoor.Aid Go.Proofs.YtbjlcipamdgnjaaDoor.Num Go.Proofs.YtbjlcipamdgnjaaDoor.BigFns Go.Proofs.YtbjlcipamdgnjaaDoor.BigQ Go.Proofs.YtbjlcipamdgnjaaDoor.RefBig Go.Proofs.YtbjlcipamdgnjaaDoor.DecSpec Go.Proofs.YtbjlcipamdgnjaaDoor.NumSpec
theorem bval_cons (B : Nat) (x : UInt8) : ∀ (n : Nat) (l : List UInt8), l.length = n → bval B (x :: l) = digV x * B ^ n + bval B l
  | 0, l, h => by
    have : l = [] := List.length_eq_zero_iff.1 h
    subst this
    simp [bval]
  | n + 1, l, h => by
    have hne : l ≠ [] := fun e => by rw [e] at h; simp at h
    obtain ⟨l', y, rfl⟩ : ∃ l' y, l = l' ++ [y] := ⟨l.dropLast, l.getLast hne, (List.dropLast_concat_getLast hne).symm⟩
    have ih := bval_cons B x n l' (by rw [List.length_append, List.length_singleton] at h; omega)
    rw [← List.cons_append, bval_snoc, bval_snoc, ih, Nat.add_mul, Nat.pow_succ, Nat.mul_assoc, Nat.add_assoc]
def sig : List UInt8 := [48, 49, 50, 51, 52, 53, 54, 55, 56, 57, 97, 98, 99, 100, 101, 102]
theorem sig_all : ∀ v : Fin 16, (sig.take (v.val + 1)).drop v.val = [sig[v.val]!] ∧ digV sig[v.val]! = v.val ∧ (v.val < 10 → 48 ≤ (sig[v.val]!).toNat ∧ (sig[v.val]!).toNat ≤ 57) := by decide
theorem sig_cut (v : Nat) (h : v < 16) : ∃ x : UInt8, (⟨#[48, 49, 50, 51, 52, 53, 54, 55, 56, 57, 97, 98, 99, 100, 101, 102]⟩ : ByteArray).extract v (v + 1) = txt [x] ∧ digV x = v ∧ (v < 10 → isDig x) := by
  obtain ⟨h1, h2, h3⟩ := sig_all ⟨v, h⟩
  refine ⟨_, ?_, h2, h3⟩
  apply ext_list
  rw [show (⟨#[48, 49, 50, 51, 52, 53, 54, 55, 56, 57, 97, 98, 99, 100, 101, 102]⟩ : ByteArray) = txt sig from rfl, txt_list, ← h1]
  simp only [ByteArray.data_extract, Array.toList_extract, List.extract_eq_take_drop]
  rw [List.drop_take, show v + 1 - v = 1 by omega]
  rfl
theorem digV_dig {x : UInt8} (h : isDig x) : digV x = dv x := by
  unfold digV dv
  rw [if_pos (show 48 ≤ x.toNat ∧ x.toNat ≤ 57 from h)]
theorem bval_digs (l : List UInt8) (h : Digs l) : bval 10 l = val l := by
  suffices H : ∀ (n : Nat) (l : List UInt8), l.length = n → Digs l → bval 10 l = val l from H _ l rfl h
  intro n
  induction n with
  | zero => intro l hn _; rw [List.length_eq_zero_iff.1 hn]; rfl
  | succ n ih =>
    intro l hn hl
    have hne : l ≠ [] := fun e => by rw [e] at hn; simp at hn
    obtain ⟨l', y, rfl⟩ : ∃ l' y, l = l' ++ [y] := ⟨l.dropLast, l.getLast hne, (List.dropLast_concat_getLast hne).symm⟩
    rw [bval_snoc, val_snoc, ih l' (by rw [List.length_append, List.length_singleton] at hn; omega) (fun x hx => hl x (by simp [hx])), digV_dig (hl y (by simp))]
    omega
/-- digits to a base that say a number -/
structure Says (B n : Nat) (l : List UInt8) : Prop where
  len : l.length ≤ 60
  ne : l ≠ []
  dig : ∀ x ∈ l, digV x < B ∧ (B = 10 → isDig x)
  val : bval B l = n
theorem Says.good {B n : Nat} {l : List UInt8} (h : Says B n l) : goodB B l = true := List.all_eq_true.2 fun x hx => decide_eq_true (h.dig x hx).1
theorem Says.base {B n : Nat} {l : List UInt8} (h : Says B n l) : baseT B l = num n := by
  unfold baseT; rw [if_pos h.good, h.val]
theorem bad95 {B : Nat} (hB : B ≤ 16) (l : List UInt8) : baseT B (l ++ [95]) = ⟨#[]⟩ := by
  unfold baseT
  rw [if_neg]
  intro q
  have := of_decide_eq_true (p := digV 95 < B) (List.all_eq_true.1 q 95 (by simp))
  have e : digV 95 = 16 := by decide
  omega
def headB (B : Nat) : List UInt8 := if B = 8 then [48, 111] else if B = 16 then [48, 120] else []
theorem bases_fin (B : Nat) (hB : B = 8 ∨ B = 16 ∨ B = 10) (n : Nat) (hn : n < 4294967296) (neg : Bool) (l : List UInt8) (h : Says B n l) (sgn : UInt8) (hs : sgn = if neg = true then 45 else 43) (k : Nat) (hk : 12000 ≤ k) :
    targumlaw8_Num12Bases.j3 (k + 1) (n : Int) neg (B : Int) (txt (headB B)) (txt l) (txt [sgn]) = some true := by
  have hlen := h.len
  have hhl : (headB B).length ≤ 2 := by rcases hB with e | e | e <;> (subst e; decide)
  have hsg : sgn = 43 ∨ sgn = 45 := by rw [hs]; split; exact .inr rfl; exact .inl rfl
  have hx : int12 (headB B ++ l) = num n := by
    rcases hB with e | e | e <;> subst e
    · show int12 (48 :: 111 :: l) = _
      rw [int12_oct, if_neg h.ne, h.base]
    · show int12 (48 :: 120 :: l) = _
      rw [int12_hex, if_neg h.ne, h.base]
    · show int12 l = _
      have hd : Digs l := fun x hx => (h.dig x hx).2 rfl
      rw [int12_digs hd h.ne, ← bval_digs l hd, h.val]
  have hy : int12 (sgn :: (headB B ++ l)) = if B = 10 then num (if neg = true then -(n : Int) else (n : Int)) else ⟨#[]⟩ := by
    have ht : ∀ b, (sgn :: (headB B ++ l)).take 2 ≠ [48, b] := fun b q => by
      have : sgn = 48 := by simpa using congrArg List.head? q
      rcases hsg with e | e <;> (rw [e] at this; exact absurd this (by decide))
    rcases hB with e | e | e <;> subst e
    · rw [if_neg (by decide), int12_no (ht _) (ht _)]
      rw [sg_sign hsg]
      intro q
      exact absurd (q 111 (by simp [headB])).2 (by decide)
    · rw [if_neg (by decide), int12_no (ht _) (ht _)]
      rw [sg_sign hsg]
      intro q
      exact absurd (q 120 (by simp [headB])).2 (by decide)
    · have hd : Digs l := fun x hx => (h.dig x hx).2 rfl
      rw [if_pos rfl, show headB 10 ++ l = l from rfl, int12_sign hsg hd h.ne, ← bval_digs l hd, h.val, hs]
      cases neg <;> rfl
  have hz : int12 (headB B ++ l ++ [95]) = ⟨#[]⟩ := by
    have e95 : ∀ l : List UInt8, ¬ (l ++ [95] = []) := fun l q => by simp at q
    rcases hB with e | e | e <;> subst e
    · show int12 (48 :: 111 :: (l ++ [95])) = _
      rw [int12_oct, if_neg (e95 _), bad95 (by decide)]
    · show int12 (48 :: 120 :: (l ++ [95])) = _
      rw [int12_hex, if_neg (e95 _), bad95 (by decide)]
    · show int12 (l ++ [95]) = _
      have hd : Digs l := fun x hx => (h.dig x hx).2 rfl
      obtain ⟨x, r, hl⟩ : ∃ x r, l = x :: r := by cases l with
        | nil => exact (h.ne rfl).elim
        | cons x r => exact ⟨x, r, rfl⟩
      have hxd : isDig x := hd x (by rw [hl]; simp)
      have hnd : ¬ Digs (sg (l ++ [95])).2 := by
        have hs : sg (l ++ [95]) = ([], l ++ [95]) := by
          rw [hl, List.cons_append]
          unfold sg; dsimp only
          rw [if_neg]
          rintro (e | e) <;> (subst e; exact absurd hxd.1 (by decide))
        rw [hs]
        intro q
        exact absurd (q 95 (by simp)).2 (by decide)
      have h2 : ∀ z : UInt8, ¬ (z.toNat ≤ 57) → z ≠ 95 → (l ++ [95]).take 2 ≠ [48, z] := by
        intro z hz hz' q
        cases r with
        | nil =>
          rw [hl] at q
          have q' : [x, 95] = [48, z] := q
          have : (95 : UInt8) = z := by simp at q'; exact q'.2
          exact hz' this.symm
        | cons y r =>
          rw [hl] at q
          have q' : [x, y] = [48, z] := q
          have : y = z := by simp at q'; exact q'.2
          have hyd : isDig y := hd y (by rw [hl]; simp)
          subst this
          exact hz hyd.2
      exact int12_no (h2 _ (by decide) (by decide)) (h2 _ (by decide) (by decide)) hnd
  have hf : float12 (headB B ++ l) = zeroD := float_int (by rw [hx]; exact num_ne _)
  have h10 : ((B : Int) == 10) = decide (B = 10) := by rcases hB with e | e | e <;> (subst e; decide)
  have dl : (decDigits n).length ≤ 10 := by rw [decDigits_length]; exact nDigits_le 9 _ (by omega)
  simp only [targumlaw8_Num12Bases.j3]
  rw [txt_size, txt_size, txt_size, if_pos (by omega), app_txt, Int_eq _ (by rw [List.length_append]; omega) k (by omega), Option.bind_some]
  rw [show ([sgn] : List UInt8).length = 1 from rfl, if_pos (by omega), app_txt, txt_size, if_pos (by rw [List.length_append, List.length_singleton]; omega), app_txt]
  rw [show [sgn] ++ headB B ++ l = sgn :: (headB B ++ l) from rfl, Int_eq _ (by rw [List.length_cons, List.length_append]; omega) k (by omega), Option.bind_some, txt_size, if_pos (by rw [List.length_append]; omega)]
  rw [show (⟨#[95]⟩ : ByteArray) = txt [95] from rfl, app_txt, Int_eq _ (by rw [List.length_append, List.length_append, List.length_singleton]; omega) k (by omega), Option.bind_some]
  rw [Float_eq _ (by rw [List.length_append]; omega) k (by omega), Option.bind_some, hx, hy, hz, hf]
  have hb : ((num (n : Int)).toList != ([] : List UInt8)) = true := bne_iff_ne.2 (num_ne _)
  rw [hb, if_pos rfl, wrap_id (x := (n : Int)) (by omega) (by omega), rText_eq n (by omega) k (by omega), Option.bind_some, num_nat, if_pos rfl, h10]
  have he : (((⟨#[]⟩ : ByteArray).toList != ([] : List UInt8))) = false := by rw [show (⟨#[]⟩ : ByteArray) = txt [] from rfl, txt_toList]; rfl
  by_cases hB10 : B = 10
  · rw [if_pos hB10, decide_eq_true hB10]
    have hb' : ((num (if neg = true then -(n : Int) else (n : Int))).toList != ([] : List UInt8)) = true := bne_iff_ne.2 (num_ne _)
    rw [hb', if_pos (by rfl), if_pos rfl, Option.bind_some, rNorm_any _ _ (by omega) k (by omega), (okD_iff _).2 ⟨dec_digs n, dec_ne n⟩, if_pos rfl, Option.bind_some, dec_val, if_pos rfl, he, if_neg Bool.false_ne_true]
    rfl
  · rw [if_neg hB10, decide_eq_false hB10, he, if_pos (by rfl), if_neg Bool.false_ne_true, if_neg Bool.false_ne_true]
    rfl
theorem bases_l1 (B : Nat) (hB : B = 8 ∨ B = 16 ∨ B = 10) (n : Nat) (hn : n < 4294967296) (neg : Bool) (c : Int) (N : Nat) (hN : Int.tmod c 9 = N) (hN9 : N < 9) (k : Nat) (hk : 12000 ≤ k) : ∀ (d i : Nat) (l : List UInt8), i + d = N → l.length ≤ 40 + i → Says B n l →
    targumlaw8_Num12Bases.l1 (k + 2 + d) (n : Int) c neg (B : Int) (txt (headB B)) (txt l) (i : Int) = some true
  | 0, i, l, hi, hl, h => by
    show targumlaw8_Num12Bases.l1 (k + 1 + 1) _ _ _ _ _ _ _ = _
    simp only [targumlaw8_Num12Bases.l1]
    rw [hN, wrap_id (by omega) (by omega), if_neg (by omega)]
    cases neg with
    | true => rw [if_pos rfl]; exact bases_fin B hB n hn true l h 45 rfl k hk
    | false => rw [if_neg Bool.false_ne_true]; exact bases_fin B hB n hn false l h 43 rfl k hk
  | d + 1, i, l, hi, hl, h => by
    have hlen := h.len
    show targumlaw8_Num12Bases.l1 (k + 2 + d + 1) _ _ _ _ _ _ _ = _
    simp only [targumlaw8_Num12Bases.l1]
    rw [hN, wrap_id (x := (N : Int)) (by omega) (by omega), if_pos (by omega), txt_size, if_pos (by omega), wrap_id (by omega) (by omega), show (⟨#[48]⟩ : ByteArray) = txt [48] from rfl, app_txt]
    have := bases_l1 B hB n hn neg c N hN hN9 k hk d (i + 1) (48 :: l) (by omega) (by rw [List.length_cons]; omega) ⟨by rw [List.length_cons]; omega, by simp, fun x hx => by
      rcases List.mem_cons.1 hx with e | e
      · subst e
        have : digV 48 = 0 := by decide
        exact ⟨by omega, fun _ => ⟨by decide, by decide⟩⟩
      · exact h.dig x e, by rw [bval_cons B 48 _ l rfl, h.val, show digV 48 = 0 by decide]; omega⟩
    rw [show (((i + 1 : Nat)) : Int) = (i : Int) + 1 by omega] at this
    exact this
/-- one digit more -/
theorem digit_more (B : Nat) (hB : B = 8 ∨ B = 16 ∨ B = 10) (m : Nat) (hm : m < 4294967296) : ∃ x : UInt8, digV x = m % B ∧ (B = 10 → isDig x) ∧ Int.tmod (m : Int) (B : Int) = ((m % B : Nat) : Int) ∧ wrap64 (((m % B : Nat) : Int) + 1) = ((m % B : Nat) : Int) + 1 ∧ m % B < B ∧ B ≤ 16 ∧
    (⟨#[48, 49, 50, 51, 52, 53, 54, 55, 56, 57, 97, 98, 99, 100, 101, 102]⟩ : ByteArray).extract (((m % B : Nat) : Int)).toNat ((((m % B : Nat) : Int) + 1)).toNat = txt [x] ∧ wrap64 (Int.tdiv (m : Int) (B : Int)) = ((m / B : Nat) : Int) := by
  have hb : 0 < B ∧ B ≤ 16 := by omega
  have hlt := Nat.mod_lt m hb.1
  obtain ⟨x, x1, x2, x3⟩ := sig_cut (m % B) (by omega)
  have hd : m / B ≤ m := Nat.div_le_self _ _
  refine ⟨x, x2, fun e => x3 (by omega), by rw [Int.tmod_eq_emod_of_nonneg (by omega)]; rfl, wrap_id (by omega) (by omega), hlt, hb.2, ?_, ?_⟩
  · rw [← x1]; congr 1
  · rw [Int.tdiv_eq_ediv_of_nonneg (by omega)]
    obtain ⟨u, hu⟩ : ∃ u, m / B = u := ⟨_, rfl⟩
    rw [show ((m : Int) / (B : Int)) = ((m / B : Nat) : Int) from rfl, hu]
    rw [hu] at hd
    exact wrap_id (by omega) (by omega)
theorem small (q B : Nat) (h : q < B) (h' : B ≤ 16) : 0 ≤ (q : Int) ∧ (q : Int) ≤ q + 1 ∧ (q : Int) + 1 ≤ 16 := by omega
theorem bases_l0 (B : Nat) (hB : B = 8 ∨ B = 16 ∨ B = 10) (n : Nat) (hn : n < 4294967296) (neg : Bool) (c : Int) (N : Nat) (hN : Int.tmod c 9 = N) (hN9 : N < 9) (k : Nat) (hk : 12000 ≤ k) : ∀ (d m i : Nat) (l : List UInt8), i + d = 33 → l.length = i → m < 2 ^ d → m < 4294967296 → (∀ x ∈ l, digV x < B ∧ (B = 10 → isDig x)) → m * B ^ i + bval B l = n → (l = [] → 1 ≤ d) →
    targumlaw8_Num12Bases.l0 (k + 20 + d) (n : Int) c neg (B : Int) (txt (headB B)) (txt l) (m : Int) = some true := by
  have hB0 : ¬ (B : Int) = 0 := by omega
  have key : ∀ (d i : Nat) (l : List UInt8), i + d = 33 → l.length = i → l ≠ [] → (∀ x ∈ l, digV x < B ∧ (B = 10 → isDig x)) → bval B l = n → targumlaw8_Num12Bases.l0 (k + 20 + d) (n : Int) c neg (B : Int) (txt (headB B)) (txt l) 0 = some true := by
    intro d i l hi hl hne hd hv
    rw [show k + 20 + d = k + 19 + d + 1 by omega]
    simp only [targumlaw8_Num12Bases.l0]
    rw [if_neg (by decide), txt_toList, if_neg hne]
    have := bases_l1 B hB n hn neg c N hN hN9 (k + 17 + d - N) (by omega) N 0 l (by omega) (by omega) ⟨by omega, hne, hd, hv⟩
    rw [show k + 17 + d - N + 2 + N = k + 19 + d by omega] at this
    exact this
  intro d
  induction d with
  | zero =>
    intro m i l hi hl hm hm' hd hv hne
    have : m = 0 := by rw [Nat.pow_zero] at hm; omega
    subst this
    exact key 0 i l hi hl (fun e => absurd (hne e) (by decide)) hd (by rw [Nat.zero_mul, Nat.zero_add] at hv; exact hv)
  | succ d ih =>
    intro m i l hi hl hm hm' hd hv hne
    obtain ⟨x, x1, x2, x3, x4, x5, x6, x7, x8⟩ := digit_more B hB m hm'
    have hB2 : 2 ≤ B := by omega
    have step : ∀ K, K = k + 20 + d → targumlaw8_Num12Bases.l0 K (n : Int) c neg (B : Int) (txt (headB B)) (txt (x :: l)) ((m / B : Nat) : Int) = some true := fun K hK => by
      subst hK
      by_cases hm2 : m / B = 0
      · rw [hm2]
        refine key d (i + 1) (x :: l) (by omega) (by rw [List.length_cons, hl]) (by simp) ?_ ?_
        · intro y hy
          rcases List.mem_cons.1 hy with rfl | hy
          · exact ⟨by rw [x1]; exact x5, x2⟩
          · exact hd y hy
        · rw [bval_cons B x i l hl, x1, ← hv]
          have : m % B = m := Nat.mod_eq_of_lt (by have := Nat.div_eq_zero_iff.1 hm2; omega)
          rw [this]
      · have hmd : m / B < 2 ^ d := by
          have h1 : m / B ≤ m / 2 := Nat.div_le_div_left hB2 (by decide)
          rw [Nat.pow_succ] at hm
          omega
        refine ih (m / B) (i + 1) (x :: l) (by omega) (by rw [List.length_cons, hl]) hmd (Nat.lt_of_le_of_lt (Nat.div_le_self _ _) hm') ?_ ?_ ?_
        · intro y hy
          rcases List.mem_cons.1 hy with rfl | hy
          · exact ⟨by rw [x1]; exact x5, x2⟩
          · exact hd y hy
        · rw [bval_cons B x i l hl, x1, ← hv, Nat.pow_succ]
          have h2 := Nat.div_add_mod m B
          have h3 : m / B * (B ^ i * B) + m % B * B ^ i = (B * (m / B) + m % B) * B ^ i := by
            rw [Nat.add_mul]
            congr 1
            rw [Nat.mul_comm (B ^ i) B, ← Nat.mul_assoc, Nat.mul_comm (m / B) B]
          rw [h2] at h3
          omega
        · intro e; simp at e
    have ab : (if (B : Int) = 0 then (none : Option Bool) else (if 0 ≤ (Int.tmod (m : Int) (B : Int)) then (if (Int.tmod (m : Int) (B : Int)) ≤ (wrap64 ((Int.tmod (m : Int) (B : Int)) + 1)) then (if (wrap64 ((Int.tmod (m : Int) (B : Int)) + 1)) ≤ 16 then (if ((⟨#[48, 49, 50, 51, 52, 53, 54, 55, 56, 57, 97, 98, 99, 100, 101, 102]⟩ : ByteArray).extract ((Int.tmod (m : Int) (B : Int)) : Int).toNat ((wrap64 ((Int.tmod (m : Int) (B : Int)) + 1)) : Int).toNat).size + (txt l).size ≤ 9223372036854775807 then (targumlaw8_Num12Bases.l0 (k + 20 + d) (n : Int) c neg (B : Int) (txt (headB B)) (((⟨#[48, 49, 50, 51, 52, 53, 54, 55, 56, 57, 97, 98, 99, 100, 101, 102]⟩ : ByteArray).extract ((Int.tmod (m : Int) (B : Int)) : Int).toNat ((wrap64 ((Int.tmod (m : Int) (B : Int)) + 1)) : Int).toNat) ++ (txt l)) (wrap64 (Int.tdiv (m : Int) (B : Int)))) else (none)) else (none)) else (none)) else (none))) = some true := by
      obtain ⟨f1, f2, f3⟩ := small _ _ x5 x6
      have f4 : ([x] : List UInt8).length + l.length ≤ 9223372036854775807 := by clear x1 x2 x3 x4 x5 x6 x7 x8 step f1 f2 f3; rw [List.length_singleton]; omega
      rw [if_neg hB0, x3, x4, x7, x8, if_pos f1, if_pos f2, if_pos f3, txt_size, txt_size, if_pos f4, app_txt]
      exact step _ rfl
    clear step x1 x2 x3 x4 x5 x6 x7 x8
    rw [show k + 20 + (d + 1) = k + 20 + d + 1 by omega]
    simp only [targumlaw8_Num12Bases.l0]
    by_cases hm0 : m = 0
    · subst hm0
      by_cases hle : l = []
      · rw [if_neg (by omega), if_pos (by rw [txt_toList]; exact hle)]
        exact ab
      · have := key (d + 1) i l hi hl hle hd (by rw [Nat.zero_mul, Nat.zero_add] at hv; exact hv)
        rw [show k + 20 + (d + 1) = k + 20 + d + 1 by omega] at this
        simp only [targumlaw8_Num12Bases.l0] at this
        exact this
    · rw [if_pos (by omega)]
      exact ab
theorem Num12Bases : targumlaw8_Num12Bases.Pure := by
  intro a b c neg ha hb hc
  have a1 : 0 ≤ a ∧ a ≤ 4294967295 := by
    have : (decide (IntKind.u32.min ≤ a) && decide (a ≤ IntKind.u32.max)) = true := ha
    rw [Bool.and_eq_true, decide_eq_true_iff, decide_eq_true_iff] at this
    have p : IntKind.u32.min = 0 := rfl
    have q : IntKind.u32.max = 4294967295 := rfl
    omega
  have c1 : 0 ≤ c ∧ c ≤ 255 := by
    have : (decide (IntKind.u8.min ≤ c) && decide (c ≤ IntKind.u8.max)) = true := hc
    rw [Bool.and_eq_true, decide_eq_true_iff, decide_eq_true_iff] at this
    have p : IntKind.u8.min = 0 := rfl
    have q : IntKind.u8.max = 255 := rfl
    omega
  obtain ⟨n, rfl⟩ : ∃ n : Nat, a = n := ⟨a.toNat, by omega⟩
  obtain ⟨N, hN⟩ : ∃ N : Nat, Int.tmod c 9 = N := ⟨(Int.tmod c 9).toNat, by rw [Int.tmod_eq_emod_of_nonneg c1.1]; omega⟩
  have hN9 : N < 9 := by rw [Int.tmod_eq_emod_of_nonneg c1.1] at hN; omega
  obtain ⟨K, hK⟩ : ∃ K, K = 12000 := ⟨_, rfl⟩
  have go : ∀ B : Nat, (B = 8 ∨ B = 16 ∨ B = 10) → targumlaw8_Num12Bases.j0 (K + 20 + 33 + 1) (n : Int) c neg (B : Int) (txt (headB B)) = some true := fun B hB => by
    simp only [targumlaw8_Num12Bases.j0]
    rw [wrap_id (by omega) (by omega)]
    exact bases_l0 B hB n (by omega) neg c N hN hN9 K (by omega) 33 n 0 [] (by omega) rfl (by have : (2 : Nat) ^ 33 = 8589934592 := by decide
                                                                                              omega) (by omega) (fun x hx => (List.not_mem_nil hx).elim) (by rw [Nat.pow_zero, Nat.mul_one]; rfl) (fun _ => by omega)
  refine ⟨K + 20 + 33 + 1, ?_⟩
  have hk := known8 (K + 20 + 33 + 1) (by omega)
  unfold targumlaw8_Num12Bases.f
  rw [hk, Option.bind_some, if_pos rfl]
  by_cases h1 : Int.tmod b 3 = 0
  · rw [if_pos h1]; exact go 8 (.inl rfl)
  · rw [if_neg h1]
    by_cases h2 : Int.tmod b 3 = 1
    · rw [if_pos h2]; exact go 16 (.inr (.inl rfl))
    · rw [if_neg h2]; exact go 10 (.inr (.inr rfl))
end Go.Proofs.YtbjlcipamdgnjaaDoor.Pure
