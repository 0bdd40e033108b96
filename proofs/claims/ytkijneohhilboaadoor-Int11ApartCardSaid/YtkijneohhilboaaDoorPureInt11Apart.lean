/- The pure law Int11Apart: a text has one form at most; what is put on makes it none. No conditions. -/
import Derived.Test.YtkijneohhilboaaDoorInt11Put
import Derived.Test.YtkijneohhilboaaDoorPIx12
namespace Go.Proofs.YtkijneohhilboaaDoor.Pure
set_option linter.unusedSimpArgs false
set_option linter.unusedVariables false
open Go.RowKit Go.Lib Go.Proofs.YtkijneohhilboaaDoor.Room Go.Proofs.YtkijneohhilboaaDoor.PI Go.Proofs.YtkijneohhilboaaDoorW.PrintWords Go.Proofs.YtkijneohhilboaaDoor.Aid Go.Proofs.YtkijneohhilboaaDoor.Num Go.Proofs.YtkijneohhilboaaDoor.BigFns Go.Proofs.YtkijneohhilboaaDoor.BigQ Go.Proofs.YtkijneohhilboaaDoor.RefBig Go.Proofs.YtkijneohhilboaaDoor.DecSpec Go.Proofs.YtkijneohhilboaaDoor.NumSpec Go.Proofs.YtkijneohhilboaaDoor.IntSpec
theorem sg_none {x : UInt8} (h : ¬ (x = 43 ∨ x = 45)) (r : List UInt8) : sg (x :: r) = ([], x :: r) := by
  unfold sg; dsimp only; rw [if_neg h]
theorem none_of {l : List UInt8} (h : core11 (sg l).2 = none) (hl : l.length ≤ 100000) : int11_Is.f (txt l) = some false := by
  rw [Is_eq l hl, int11_form]
  unfold formT
  rw [h]; rfl
theorem sg_back (l : List UInt8) (hl : (sg l).2 ≠ []) (c : UInt8) : (sg (l ++ [c])).2 = (sg l).2 ++ [c] := by
  cases l with
  | nil => exact absurd rfl hl
  | cons x r =>
    rw [List.cons_append]
    by_cases hx : x = 43 ∨ x = 45
    · rw [sg_sign hx, sg_sign hx]
    · rw [sg_none hx, sg_none hx]; rfl
theorem is_back {l : List UInt8} {nf : Nat × Int} (hl : l.length ≤ 60) (hc : core11 (sg l).2 = some nf) (c : UInt8) (h : 16 ≤ digV c ∧ c ≠ 95) : int11_Is.f (txt l ++ txt [c]) = some false := by
  have hne : (sg l).2 ≠ [] := fun e => by rw [e, show core11 [] = none by decide] at hc; cases hc
  rw [app_txt]
  exact none_of (by rw [sg_back l hne]; exact core_back _ hne c h) (by rw [List.length_append, List.length_singleton]; omega)
theorem of_of {l : List UInt8} {n : Nat} {f : Int} (hl : l.length ≤ 60) (hc : core11 (sg l).2 = some (n, f)) (k : Nat) (hk : 4000 ≤ k) : ∃ z : List UInt8, (int11 l).1 = txt z ∧ int11_Of.f k (txt z) = some (txt z, true) := by
  have h60 : (sg l).2.length ≤ 60 := Nat.le_trans (sg_len l) hl
  have hn := (core_lim h60 hc).1
  have hd : (decDigits n).length ≤ 80 := by rw [decDigits_length]; exact nDigits_le 79 _ hn
  have hc' := core_dec n
  have hs0 : sg (decDigits n) = ([], decDigits n) := sg_digs (dec_digs n)
  have hf : (if n = 0 then (4 : Int) else 5) > 0 := by split <;> decide
  have hnum : (int11 l).1 = num (if ((sg l).1 == [45]) = true then -(n : Int) else (n : Int)) := by unfold int11; rw [hc]
  by_cases hneg : ((sg l).1 == [45]) = true ∧ n ≠ 0
  · have hz : num (-(n : Int)) = txt (45 :: decDigits n) := num_neg n (Nat.pos_of_ne_zero hneg.2)
    have hi : int11 (45 :: decDigits n) = (txt (45 :: decDigits n), if n = 0 then 4 else 5) := by
      unfold int11
      rw [sg_sign (.inr rfl), hc', ← hz]
      rfl
    refine ⟨45 :: decDigits n, by rw [hnum, if_pos hneg.1, hz], ?_⟩
    rw [Of_eq _ (by rw [List.length_cons]; omega) k hk, hi, decide_eq_true hf]
  · have hz : num (if ((sg l).1 == [45]) = true then -(n : Int) else (n : Int)) = txt (decDigits n) := by
      by_cases hg : ((sg l).1 == [45]) = true
      · have : n = 0 := by
          rcases Nat.eq_zero_or_pos n with q | q
          · exact q
          · exact absurd ⟨hg, by omega⟩ hneg
        rw [if_pos hg, this]
        exact num_nat 0
      · rw [if_neg hg]; exact num_nat n
    have hi : int11 (decDigits n) = (txt (decDigits n), if n = 0 then 4 else 5) := by
      unfold int11
      rw [hs0, hc', ← num_nat]
      rfl
    refine ⟨decDigits n, by rw [hnum, hz], ?_⟩
    rw [Of_eq _ (by omega) k hk, hi, decide_eq_true hf]
theorem Int11Apart : targumlaw6_Int11Apart.Pure := by
  intro s c hs0 hc8
  have c8 : 0 ≤ c ∧ c ≤ 255 := by
    have : (decide (IntKind.u8.min ≤ c) && decide (c ≤ IntKind.u8.max)) = true := hc8
    rw [Bool.and_eq_true, decide_eq_true_iff, decide_eq_true_iff] at this
    have p : IntKind.u8.min = 0 := rfl
    have q : IntKind.u8.max = 255 := rfl
    omega
  obtain ⟨l, rfl⟩ : ∃ l, s = txt l := ⟨s.data.toList, (ext_list (by rw [txt_list])).symm⟩
  rw [txt_size] at hs0
  obtain ⟨K, hK⟩ : ∃ K, K = 5000 := ⟨_, rfl⟩
  refine ⟨K + 3, ?_⟩
  have hk := known6 (K + 3) (by omega)
  unfold targumlaw6_Int11Apart.f
  rw [hk, Option.bind_some, if_pos rfl, txt_size]
  by_cases hl : (l.length : Int) > 60
  · rw [if_pos hl]
    simp only [targumlaw6_Int11Apart.j0]
    rw [if_pos trivial, txt_size, if_pos hl]
  · have hl : l.length ≤ 60 := by omega
    rw [if_neg (by omega), Is_eq l (by omega), Option.bind_some]
    simp only [targumlaw6_Int11Apart.j0]
    rw [txt_size]
    cases hcore : core11 (sg l).2 with
    | none =>
      have h0 : (int11 l).2 = 0 := by rw [int11_form]; unfold formT; rw [hcore]
      rw [h0, if_pos (by rfl), if_neg (by omega), Form_eq l (by omega), Option.bind_some, h0]; rfl
    | some nf =>
      obtain ⟨n, f⟩ := nf
      have h0 : (int11 l).2 = f := by rw [int11_form]; unfold formT; rw [hcore]
      have h60 : (sg l).2.length ≤ 60 := Nat.le_trans (sg_len l) hl
      obtain ⟨hn, f1, f6⟩ := core_lim h60 hcore
      rw [h0, if_neg (by rw [show (f != 0) = true from bne_iff_ne.2 (by omega)]; decide), Form_eq l (by omega), Option.bind_some, h0]
      have hne : l ≠ [] := fun e => by rw [e, show core11 (sg []).2 = none by decide] at hcore; cases hcore
      have hpos : 0 < l.length := List.length_pos_iff.2 hne
      rw [if_pos (by omega)]
      have back := fun (c : UInt8) (h : 16 ≤ digV c ∧ c ≠ 95) => is_back hl hcore c h
      obtain ⟨z, hz1, hz2⟩ := of_of hl hcore (K + 1) (by omega)
      obtain ⟨z', hz1', hz2'⟩ := of_of hl hcore K (by omega)
      have ezz : z' = z := by
        have := hz1.symm.trans hz1'
        have := congrArg (fun b : ByteArray => b.data.toList) this
        simp only [txt_list] at this
        exact this.symm
      have eO := Of_eq l (by omega) K (by omega)
      rw [h0, decide_eq_true (show f > 0 by omega), hz1] at eO
      have j2 : targumlaw6_Int11Apart.j2 (K + 1) (txt l) c false = some true := by
        obtain ⟨y, hy⟩ : ∃ y : UInt8, c = (y.toNat : Int) := ⟨UInt8.ofNat c.toNat, by rw [UInt8.toNat_ofNat']; omega⟩
        subst hy
        have hs : strOfNums [(y.toNat : Int)] = txt [y] := by
          apply ext_list
          rw [strOfNums_data, txt_list]
          show [UInt8.ofNat (y.toNat : Int).toNat] = [y]
          rw [Int.toNat_natCast, UInt8.ofNat_toNat]
        have eI : ∀ n5 : ¬ (48 ≤ y.toNat ∧ y.toNat ≤ 57), y ≠ 95 → ¬ (97 ≤ y.toNat ∧ y.toNat ≤ 102) → ¬ (65 ≤ y.toNat ∧ y.toNat ≤ 70) → int11_Is.f (txt l ++ txt [y]) = some false := fun a b c d => by
          refine back y ⟨?_, b⟩
          unfold digV
          rw [if_neg a, if_neg c, if_neg d]
          exact Nat.le_refl _
        simp only [targumlaw6_Int11Apart.j2, Bool.false_eq_true, if_false]
        rw [eO, Option.bind_some]
        dsimp only
        rw [ezz] at hz2'
        rw [hz2', Option.bind_some]
        dsimp only
        rw [IsDigit_eq, Option.bind_some]
        simp only [if_true, Option.bind_some, hs, txt_size]
        by_cases d1 : 48 ≤ y.toNat ∧ y.toNat ≤ 57
        · rw [decide_eq_true d1, if_pos rfl]
        · rw [decide_eq_false d1, if_neg Bool.false_ne_true]
          by_cases d2 : y = 95
          · rw [if_pos (by rw [d2]; rfl)]
          · rw [if_neg (by intro e; exact d2 (UInt8.toNat_inj.1 (by have : (95 : UInt8).toNat = 95 := rfl; omega)))]
            by_cases d3 : 97 ≤ y.toNat ∧ y.toNat ≤ 102
            · rw [if_pos (by omega), if_pos (by omega)]
            · by_cases d4 : 65 ≤ y.toNat ∧ y.toNat ≤ 70
              · rw [if_neg (by omega), if_pos (by omega), if_pos (by omega)]
              · have e := eI d1 d2 d3 d4
                rw [e]
                simp only [Option.bind_some, Bool.not_false]
                rw [if_pos (show l.length + ([y] : List UInt8).length ≤ 9223372036854775807 by rw [List.length_singleton]; omega)]
                repeat' split
                all_goals rfl
      have j1 : targumlaw6_Int11Apart.j1 (K + 2) (txt l) c f false = some true := by
        have h45 : ∀ x ∈ (45 :: l).head?, ¬ (48 ≤ x.toNat ∧ x.toNat ≤ 57) := fun x hx => by
          have : x = 45 := by simpa using hx.symm
          subst this; decide
        have h32 : ∀ x ∈ (32 :: l).head?, ¬ (48 ≤ x.toNat ∧ x.toNat ≤ 57) := fun x hx => by
          have : x = 32 := by simpa using hx.symm
          subst this; decide
        have w1 : int11_Is.f (txt (43 :: 45 :: l)) = some false := none_of (by rw [sg_sign (.inl rfl)]; exact core_foreign _ h45) (by simp; omega)
        have w2 : int11_Is.f (txt (32 :: l)) = some false := none_of (by rw [sg_none (by decide)]; exact core_foreign _ h32) (by simp; omega)
        simp only [targumlaw6_Int11Apart.j1, Bool.false_eq_true, if_false]
        rw [if_neg (by omega), if_neg (by omega), txt_size, if_pos (by omega), show (⟨#[43, 45]⟩ : ByteArray) = txt [43, 45] from rfl, app_txt, show [43, 45] ++ l = 43 :: 45 :: l from rfl, w1, Option.bind_some, if_neg Bool.false_ne_true, if_pos (by omega), show (⟨#[32]⟩ : ByteArray) = txt [32] from rfl, back 32 (by decide), Option.bind_some, if_neg Bool.false_ne_true, if_pos (by omega), app_txt, show [32] ++ l = 32 :: l from rfl, w2, Option.bind_some, if_neg Bool.false_ne_true, show (⟨#[46]⟩ : ByteArray) = txt [46] from rfl, back 46 (by decide), Option.bind_some, if_neg Bool.false_ne_true, show (⟨#[103]⟩ : ByteArray) = txt [103] from rfl, back 103 (by decide), Option.bind_some, if_neg Bool.false_ne_true, show (⟨#[58]⟩ : ByteArray) = txt [58] from rfl, back 58 (by decide), Option.bind_some]
        exact j2
      obtain ⟨x, r, hxr⟩ : ∃ x r, l = x :: r := by
        cases l with
        | nil => exact absurd rfl hne
        | cons x r => exact ⟨x, r, rfl⟩
      have hb : bt (txt l) 0 = (x.toNat : Int) := by rw [hxr]; exact bt_head x r
      rw [hb]
      by_cases x43 : x = 43
      · rw [if_pos (by rw [x43]; rfl)]; exact j1
      · rw [if_neg (by intro e; exact x43 (UInt8.toNat_inj.1 (by have : (43 : UInt8).toNat = 43 := rfl; omega)))]
        by_cases x45 : x = 45
        · rw [if_pos (by rw [x45]; rfl)]; exact j1
        · rw [if_neg (by intro e; exact x45 (UInt8.toNat_inj.1 (by have : (45 : UInt8).toNat = 45 := rfl; omega)))]
          have hsg : sg l = ([], l) := by rw [hxr]; exact sg_none (by rintro (q | q); exact x43 q; exact x45 q) r
          have fs : ∀ b : UInt8, b = 43 ∨ b = 45 → int11_Form.f (txt (b :: l)) = some f := fun b hb => by
            rw [Form_eq _ (by simp; omega), int11_form, sg_sign hb]
            unfold formT
            rw [hsg] at hcore
            dsimp only at hcore ⊢
            rw [hcore]
          rw [if_pos (by omega), show (⟨#[43]⟩ : ByteArray) = txt [43] from rfl, show (⟨#[45]⟩ : ByteArray) = txt [45] from rfl, app_txt, app_txt, show [43] ++ l = 43 :: l from rfl, show [45] ++ l = 45 :: l from rfl, fs 43 (.inl rfl), fs 45 (.inr rfl), Option.bind_some, if_pos rfl, Option.bind_some, show (f != f) = false from bne_self_eq_false f]
          exact j1
end Go.Proofs.YtkijneohhilboaaDoor.Pure
