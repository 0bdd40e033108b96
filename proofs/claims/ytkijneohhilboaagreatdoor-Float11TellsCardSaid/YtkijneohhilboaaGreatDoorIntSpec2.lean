/- Whole numbers of the old schema: the reference's parts of sixty, and its Int11. No conditions but sizes. -/
import Derived.Test.YtkijneohhilboaaGreatDoorIntSpec
namespace Go.Proofs.YtkijneohhilboaaGreatDoor.IntSpec
set_option linter.unusedSimpArgs false
set_option linter.unusedVariables false
open Go.RowKit Go.Lib Go.Proofs.YtkijneohhilboaaGreatDoor.Room Go.Proofs.YtkijneohhilboaaGreatDoor.PT Go.Proofs.YtkijneohhilboaaGreatDoorW.PrintWords Go.Proofs.YtkijneohhilboaaGreatDoor.Aid Go.Proofs.YtkijneohhilboaaGreatDoor.Num Go.Proofs.YtkijneohhilboaaGreatDoor.BigFns Go.Proofs.YtkijneohhilboaaGreatDoor.BigQ Go.Proofs.YtkijneohhilboaaGreatDoor.RefBig Go.Proofs.YtkijneohhilboaaGreatDoor.DecSpec Go.Proofs.YtkijneohhilboaaGreatDoor.NumSpec
def sixO (o : Option Nat) : ByteArray × Bool := match o with | some m => (num m, true) | none => (⟨#[]⟩, false)
/-- what is left, from a colon on -/
def restW : List UInt8 → Nat → Option Nat
  | [], n => some n
  | _ :: q, n => sixW (cols q) n
theorem six_l1 (t : ByteArray) (pos : Int) (N : ByteArray) (e : Int) (P : List UInt8) (hP : P.length ≤ 2) (hd : Digs P) (R : Option (ByteArray × Bool)) (M : Nat) (hR : ∀ k, M ≤ k → ((targumref4_MulAdd.f k N 60 (val P)).bind fun t435 => (targumref6_sixty.l0 k t (wrap64 ((wrap64 (pos + 1)) + e)) t435)) = R) :
    ∀ (r a : List UInt8) (k : Nat), a ++ r = P → M + r.length + 1 ≤ k → targumref6_sixty.l1 k t pos N (txt P) e (val a : Int) (a.length : Int) = R
  | [], a, k, h, hk => by
    obtain ⟨k, rfl⟩ : ∃ q, k = q + 1 := ⟨k - 1, by omega⟩
    rw [List.append_nil] at h
    subst h
    simp only [targumref6_sixty.l1]
    rw [txt_size, if_neg (by omega)]
    exact hR k (by simp at hk; omega)
  | x :: r, a, k, h, hk => by
    obtain ⟨k, rfl⟩ : ∃ q, k = q + 1 := ⟨k - 1, by omega⟩
    have hl : P.length = a.length + (r.length + 1) := by rw [← h, List.length_append, List.length_cons]
    rw [List.length_cons] at hk
    have hx : isDig x := hd x (by rw [← h]; simp)
    have hb : bt (txt P) (a.length : Int) = (x.toNat : Int) := by rw [← h]; exact bt_mid a x r
    have hv := val_lt a (fun y hy => hd y (by rw [← h]; simp [hy]))
    have ha : (10 : Nat) ^ a.length ≤ 10 ^ 2 := Nat.pow_le_pow_right (by decide) (by omega)
    have h100 : (10 : Nat) ^ 2 = 100 := by decide
    simp only [targumref6_sixty.l1]
    have hdx : ((x.toNat : Int) - 48) % 256 = (dv x : Int) := by have := hx.1; have := hx.2; unfold dv; omega
    have hdl := dv_lt hx
    have := six_l1 t pos N e P hP hd R M hR r (a ++ [x]) k (by rw [← h]; simp) (by omega)
    rw [val_snoc, List.length_append, List.length_singleton] at this
    rw [txt_size, if_pos (by omega), if_pos (by omega), hb, hdx, wrap_id (x := 10 * (val a : Int)) (by omega) (by omega), wrap_id (x := 10 * (val a : Int) + (dv x : Int)) (by omega) (by omega), wrap_id (by omega) (by omega)]
    rw [show 10 * (val a : Int) + (dv x : Int) = ((dv x + 10 * val a : Nat) : Int) by omega, show (a.length : Int) + 1 = ((a.length + 1 : Nat) : Int) by omega]
    exact this
theorem span58 (q : List UInt8) : (58 ∉ q ∧ cols q = [q]) ∨ ∃ p r, q = p ++ 58 :: r ∧ 58 ∉ p ∧ cols q = p :: cols r ∧ findL 58 q = p.length := by
  by_cases h : 58 ∈ q
  · right
    obtain ⟨p, r, e, hp⟩ : ∃ p r, q = p ++ 58 :: r ∧ 58 ∉ p := by
      induction q with
      | nil => cases h
      | cons x q ih =>
        by_cases hx : x = 58
        · exact ⟨[], q, by rw [hx]; rfl, by simp⟩
        · rcases List.mem_cons.1 h with e | e
          · exact absurd e.symm hx
          · obtain ⟨p, r, e, hp⟩ := ih e
            refine ⟨x :: p, r, by rw [e]; rfl, fun q => ?_⟩
            rcases List.mem_cons.1 q with e | e
            · exact hx e.symm
            · exact hp e
    refine ⟨p, r, e, hp, (cols_head q).2 p r e hp, ?_⟩
    unfold findL
    rw [if_pos h, e, List.takeWhile_append_of_pos (fun y hy => bne_iff_ne.2 (fun e' => hp (by rw [← e']; exact hy))), List.takeWhile_cons, if_neg (by decide), List.append_nil]
  · exact .inl ⟨h, (cols_head q).1 h⟩
theorem okPart_len {p : List UInt8} (h : okPart p = true) : p.length ≤ 2 := by
  unfold okPart at h
  simp only [Bool.and_eq_true, Bool.or_eq_true, decide_eq_true_eq, beq_iff_eq] at h
  omega
theorem okPart_digs {p : List UInt8} (h : okPart p = true) : Digs p ∧ p ≠ [] := by
  unfold okPart at h
  exact (okD_iff _).1 (Bool.and_eq_true _ _ ▸ h).1
/-- one part -/
theorem six_part (T : List UInt8) (hT : T.length ≤ 100) (pos n : Nat) (q p : List UInt8) (hq : q.length ≤ 100) (hpq : p <+: q) (hn : (decDigits n).length ≤ 102) (R : ByteArray × Bool) (M : Nat) (hM : 600 ≤ M)
    (hR : okPart p = true → ∀ k, M ≤ k → targumref6_sixty.l0 k (txt T) (wrap64 ((wrap64 ((pos : Int) + 1)) + (p.length : Int))) (num ((n * 60 + val p : Nat) : Int)) = some R) (k : Nat) (hk : M + 8 ≤ k) :
    targumref6_sixty.j2 k (txt T) (pos : Int) (num (n : Int)) (txt q) (p.length : Int) = some (if okPart p = true then R else (⟨#[]⟩, false)) := by
  obtain ⟨k, rfl⟩ : ∃ q, k = q + 2 := ⟨k - 2, by omega⟩
  have hpl := hpq.length_le
  have hpt : (txt q).extract 0 (p.length) = txt p := by
    apply ext_list
    rw [extract_take, txt_list, txt_list]
    exact (List.prefix_iff_eq_take.1 hpq).symm
  have J3 : targumref6_sixty.j3 (k + 1) (txt T) (pos : Int) (num (n : Int)) (txt p) (p.length : Int) true = some (⟨#[]⟩, false) := by simp only [targumref6_sixty.j3, if_true]
  have J3n : okPart p = true → targumref6_sixty.j3 (k + 1) (txt T) (pos : Int) (num (n : Int)) (txt p) (p.length : Int) false = some R := fun h => by
    simp only [targumref6_sixty.j3, Bool.false_eq_true, if_false]
    have hd := okPart_digs h
    refine six_l1 (txt T) pos (num n) p.length p (okPart_len h) hd.1 (some R) M (fun k hk => ?_) p [] k rfl (by have := okPart_len h; omega)
    have hv := val_lt p hd.1
    have ha : (10 : Nat) ^ p.length ≤ 10 ^ 2 := Nat.pow_le_pow_right (by decide) (okPart_len h)
    have h100 : (10 : Nat) ^ 2 = 100 := by decide
    rw [rMulAdd_eq (n : Int) 60 (val p) (by omega) (by omega) (by omega) (by omega) (by omega) (by rw [Int.natAbs_natCast]; omega) k (by rw [Int.natAbs_natCast]; omega)]
    exact hR h k hk
  simp only [targumref6_sixty.j2]
  rw [txt_size, if_pos (by omega), if_pos (by omega), Int.toNat_natCast, hpt, rDigits_any p (by omega) _ (by omega)]
  simp only [Option.bind_some, txt_size]
  cases hok : okD p with
  | false =>
    rw [if_neg Bool.false_ne_true, J3, if_neg (by unfold okPart; rw [hok]; simp)]
  | true =>
    rw [if_pos rfl]
    have hne := ((okD_iff _).1 hok).2
    by_cases h2 : (p.length : Int) > 2
    · rw [if_pos h2, J3, if_neg (fun h => by have := okPart_len h; omega)]
    · rw [if_neg h2]
      by_cases h3 : (p.length : Int) = 2
      · rw [if_pos h3, if_pos (by omega)]
        obtain ⟨x, r, rfl⟩ : ∃ x r, p = x :: r := by cases p with
          | nil => exact absurd rfl hne
          | cons x r => exact ⟨x, r, rfl⟩
        rw [bt_head]
        by_cases h4 : (x.toNat : Int) > 53
        · rw [decide_eq_true h4, J3, if_neg]
          unfold okPart
          rw [decide_eq_false (show ¬ (x :: r).length < 2 by omega), List.headD_cons, decide_eq_false (show ¬ x.toNat ≤ 53 by omega)]
          simp
        · have hp : okPart (x :: r) = true := by
            unfold okPart
            rw [hok, List.headD_cons, decide_eq_true (show x.toNat ≤ 53 by omega), beq_iff_eq.2 (show (x :: r).length = 2 by omega)]
            simp
          rw [decide_eq_false h4, J3n hp, if_pos hp]
      · rw [if_neg h3]
        have hp : okPart p = true := by
          unfold okPart
          rw [hok, decide_eq_true (show p.length < 2 by omega)]
          rfl
        rw [J3n hp, if_pos hp]
theorem six_l0 (T : List UInt8) (hT : T.length ≤ 100) : ∀ (m : Nat) (R pre : List UInt8) (n k : Nat), R.length ≤ m → pre ++ R = T → (R = [] ∨ ∃ q, R = 58 :: q) → n < 10 ^ (pre.length + 1) → 700 + 12 * m ≤ k →
    targumref6_sixty.l0 k (txt T) (pre.length : Int) (num (n : Int)) = some (sixO (restW R n))
  | 0, R, pre, n, k, hm, h, hR, hn, hk => by
    obtain ⟨k, rfl⟩ : ∃ q, k = q + 1 := ⟨k - 1, by omega⟩
    have : R = [] := List.length_eq_zero_iff.1 (by omega)
    subst this
    rw [List.append_nil] at h
    subst h
    simp only [targumref6_sixty.l0]
    rw [txt_size, if_neg (by omega)]
    rfl
  | m + 1, R, pre, n, k, hm, h, hR, hn, hk => by
    obtain ⟨k, rfl⟩ : ∃ q, k = q + 1 := ⟨k - 1, by omega⟩
    have hl : T.length = pre.length + R.length := by rw [← h, List.length_append]
    rcases hR with rfl | ⟨q, rfl⟩
    · simp only [targumref6_sixty.l0]
      rw [txt_size, if_neg (by simp at hl; omega)]
      rfl
    · rw [List.length_cons] at hl hm
      have hdn : (decDigits n).length ≤ 102 := by
        rw [decDigits_length]
        exact Nat.le_trans (nDigits_le pre.length n hn) (by omega)
      have hx : (txt T).extract (pre.length + 1) (txt T).size = txt q := by
        apply ext_list
        rw [extract_end, txt_list, txt_list, ← h]
        rw [show pre ++ 58 :: q = (pre ++ [58]) ++ q by simp, show pre.length + 1 = (pre ++ [58]).length by simp]
        exact List.drop_left' rfl
      simp only [targumref6_sixty.l0]
      rw [if_pos (by rw [txt_size]; omega), wrap_id (x := (pre.length : Int) + 1) (by omega) (by omega), if_pos (by omega), if_pos (by rw [txt_size]; omega), show ((pre.length : Int) + 1).toNat = pre.length + 1 by omega, hx]
      have hf := find_eq 58 q (by omega) k (by omega)
      rw [show ((58 : UInt8).toNat : Int) = 58 from rfl] at hf
      rw [hf]
      simp only [Option.bind_some]
      have hpart : ∀ (p R' : List UInt8), q = p ++ R' → (R' = [] ∨ ∃ q', R' = 58 :: q') → cols q = p :: (match R' with | [] => [] | _ :: q' => cols q') →
          targumref6_sixty.j2 k (txt T) (pre.length : Int) (num (n : Int)) (txt q) (p.length : Int) = some (sixO (sixW (cols q) n)) := by
        intro p R' hq hR' hc
        have hql : q.length = p.length + R'.length := by rw [hq, List.length_append]
        have := six_part T hT pre.length n q p (by omega) ⟨R', hq.symm⟩ hdn (sixO (restW R' (n * 60 + val p))) (700 + 12 * m) (by omega) (fun hp k' hk' => by
          have hd := okPart_digs hp
          have hp1 := List.length_pos_iff.2 hd.2
          have hv := val_lt p hd.1
          have ha : (10 : Nat) ^ p.length ≤ 10 ^ 2 := Nat.pow_le_pow_right (by decide) (okPart_len hp)
          have h100 : (10 : Nat) ^ 2 = 100 := by decide
          have hb : (10 : Nat) ^ (pre.length + 1) * 10 ^ 2 ≤ 10 ^ ((pre ++ 58 :: p).length + 1) := by
            rw [← Nat.pow_add]
            exact Nat.pow_le_pow_right (by decide) (by rw [List.length_append, List.length_cons]; omega)
          have := six_l0 T hT m R' (pre ++ 58 :: p) (n * 60 + val p) k' (by omega) (by rw [← h, hq]; simp) hR' (by rw [h100] at hb; omega) hk'
          rw [wrap_id (x := (pre.length : Int) + 1) (by omega) (by omega), wrap_id (by omega) (by omega), show (pre.length : Int) + 1 + (p.length : Int) = ((pre ++ 58 :: p).length : Int) by rw [List.length_append, List.length_cons]; omega]
          exact this) k (by omega)
        rw [this, hc]
        unfold sixW
        by_cases hp : okPart p = true
        · rw [if_pos hp, if_pos hp]
          rcases hR' with rfl | ⟨q', rfl⟩ <;> rfl
        · rw [if_neg hp, if_neg hp]; rfl
      show _ = some (sixO (sixW (cols q) n))
      rcases span58 q with ⟨h1, h2⟩ | ⟨p, r, e, hp, hc, hfe⟩
      · have hfe : findL 58 q = -1 := by unfold findL; rw [if_neg h1]
        rw [hfe, if_pos (by omega), txt_size]
        exact hpart q [] (by simp) (.inl rfl) h2
      · rw [hfe, if_neg (by omega)]
        exact hpart p (58 :: r) e (.inr ⟨r, rfl⟩) hc
/-- a number of parts -/
theorem sixty_eq (t : List UInt8) (ht : t.length ≤ 100) (k : Nat) (hk : 3000 ≤ k) : targumref6_sixty.f k (txt t) = some (sixO (six t)) := by
  obtain ⟨k, rfl⟩ : ∃ q, k = q + 1 := ⟨k - 1, by omega⟩
  have hf := find_eq 58 t (by omega) (k + 1) (by omega)
  rw [show ((58 : UInt8).toNat : Int) = 58 from rfl] at hf
  have J1 : ∀ z, targumref6_sixty.j0 (k + 1) (txt t) z true = some (⟨#[]⟩, false) := fun z => by simp only [targumref6_sixty.j0, if_true]
  unfold targumref6_sixty.f
  rw [hf]
  simp only [Option.bind_some]
  rcases span58 t with ⟨h1, h2⟩ | ⟨p, r, e, hp, hc, hfe⟩
  · have hfe : findL 58 t = -1 := by unfold findL; rw [if_neg h1]
    rw [hfe, if_pos (by omega), J1]
    unfold six; rw [h2]; rfl
  · obtain ⟨q, qs, hq⟩ : ∃ q qs, cols r = q :: qs := by
      cases hc' : cols r with
      | nil => exact absurd hc' (cols_ne r)
      | cons q qs => exact ⟨q, qs, rfl⟩
    have hsix : six t = if firstD p = true then (match bareL 10 p with | some d => sixW (cols r) (val d) | none => none) else none := by
      unfold six; rw [hc, hq]; rfl
    rw [hfe, hsix]
    cases p with
    | nil => rw [if_pos (show ((([] : List UInt8).length : Nat) : Int) < 1 by simp), J1, show firstD [] = false from rfl, if_neg Bool.false_ne_true]; rfl
    | cons x p =>
      have hl : t.length = (x :: p).length + (r.length + 1) := by rw [e]; simp only [List.length_append, List.length_cons]
      have hb : bt (txt t) 0 = (x.toNat : Int) := by rw [e]; exact bt_head x _
      rw [List.length_cons] at hl
      rw [if_neg (by rw [List.length_cons]; omega), txt_size, if_pos (by omega), hb]
      have hdg : targumref4_IsDigit.f (x.toNat : Int) = some (isD' x) := by
        unfold targumref4_IsDigit.f isD'
        by_cases h48 : 48 ≤ x.toNat
        · rw [if_pos (by omega)]
          congr 1
          rw [Bool.eq_iff_iff, decide_eq_true_iff, decide_eq_true_iff]
          omega
        · rw [if_neg (by omega), decide_eq_false (by omega)]
      rw [hdg]
      simp only [Option.bind_some]
      cases hd : isD' x with
      | false => rw [show firstD (x :: p) = false from hd, if_neg Bool.false_ne_true]; exact J1 _
      | true =>
        rw [show firstD (x :: p) = true from hd, if_pos rfl]
        have hcut : (txt t).extract 0 (x :: p).length = txt (x :: p) := by
          apply ext_list
          rw [extract_take, txt_list, txt_list, e]
          exact List.take_left' rfl
        show targumref6_sixty.j0 (k + 1) (txt t) _ false = _
        simp only [targumref6_sixty.j0, Bool.false_eq_true, if_false]
        have hbe := bare_eq 10 (by decide) (x :: p) (by rw [List.length_cons]; omega) k (by rw [List.length_cons]; omega)
        rw [show ((10 : Nat) : Int) = 10 from rfl] at hbe
        rw [txt_size, if_pos (by omega), if_pos (by rw [List.length_cons]; omega), Int.toNat_natCast, hcut, hbe]
        simp only [Option.bind_some]
        unfold bareR
        cases hbl : bareL 10 (x :: p) with
        | none => rfl
        | some d =>
          obtain ⟨e1, e2, e3, e4⟩ := bareL_ok hbl
          have hdd := goodB_digs e4
          have hdl : d.length ≤ (x :: p).length := by rw [e1]; exact sift_len _
          rw [List.length_cons] at hdl
          have hn := rNorm_any false d (by omega) k (by omega)
          rw [(okD_iff _).2 ⟨hdd, e3⟩, if_pos rfl] at hn
          dsimp only
          rw [if_pos rfl, hn]
          simp only [Option.bind_some]
          have hv := val_lt d hdd
          have h10 : (10 : Nat) ^ d.length ≤ 10 ^ ((x :: p).length + 1) := Nat.pow_le_pow_right (by decide) (by rw [List.length_cons]; omega)
          exact six_l0 t ht (r.length + 1) (58 :: r) (x :: p) (val d) k (by simp) (by rw [e]) (.inr ⟨r, rfl⟩) (by omega) (by omega)
/-- the number and the form of a text without a sign -/
def core11 (t : List UInt8) : Option (Nat × Int) :=
  if t.take 2 = [48, 98] then (bareL 2 (t.drop 2)).map fun d => (bval 2 d, 1) else
  if t.take 2 = [48, 120] then (bareL 16 (t.drop 2)).map fun d => (bval 16 d, 2) else
  if t = [48] then some (0, 4) else
  if t.head? = some 48 then (bareL 8 (t.drop 1)).map fun d => (bval 8 d, 3) else
  if (∃ x ∈ t.head?, 49 ≤ x.toNat ∧ x.toNat ≤ 57) then (match bareL 10 t with | some d => some (val d, 5) | none => (six t).map fun n => (n, 6)) else none
def int11 (l : List UInt8) : ByteArray × Int := match core11 (sg l).2 with
  | some (n, f) => (num (if ((sg l).1 == [45]) = true then -(n : Int) else (n : Int)), f)
  | none => (⟨#[]⟩, 0)
def intO (neg : Bool) (o : Option (Nat × Int)) : ByteArray × Int := match o with
  | some (n, f) => (num (if neg = true then -(n : Int) else (n : Int)), f)
  | none => (⟨#[]⟩, 0)
theorem rNorm_num (neg : Bool) (n : Nat) (hn : (decDigits n).length ≤ 1000) (k : Nat) (hk : 2000 ≤ k) : targumref4_Norm.f k neg (num (n : Int)) = some (num (if neg = true then -(n : Int) else (n : Int))) := by
  rw [num_nat, rNorm_any neg _ (by omega) k (by omega), (okD_iff _).2 ⟨dec_digs n, dec_ne n⟩, if_pos rfl, dec_val]
theorem sixW_lim : ∀ (ps : List (List UInt8)) (n m : Nat), sixW ps n = some m → m + 1 ≤ (n + 1) * 100 ^ ps.length
  | [], n, m, h => by obtain rfl := Option.some.inj (show some n = some m from h); simp
  | p :: ps, n, m, h => by
    unfold sixW at h
    split at h
    · rename_i hp
      have ih := sixW_lim ps _ m h
      have hd := okPart_digs hp
      have hv := val_lt p hd.1
      have ha : (10 : Nat) ^ p.length ≤ 10 ^ 2 := Nat.pow_le_pow_right (by decide) (okPart_len hp)
      have h100 : (10 : Nat) ^ 2 = 100 := by decide
      have h1 : n * 60 + val p + 1 ≤ (n + 1) * 100 := by omega
      have h2 := Nat.mul_le_mul_right (100 ^ ps.length) h1
      rw [List.length_cons, Nat.pow_succ, Nat.mul_comm (100 ^ ps.length) 100, ← Nat.mul_assoc]
      exact Nat.le_trans ih h2
    · cases h
theorem cols_len : ∀ l : List UInt8, (cols l).length ≤ l.length + 1 := by
  intro l
  induction l with
  | nil => exact Nat.le_refl 1
  | cons x r ih =>
    unfold cols
    split
    · simp only [List.length_cons]; omega
    · split
      · rename_i h; rw [h] at ih; simp only [List.length_cons] at ih ⊢; omega
      · simp only [List.length_cons, List.length_nil]; omega
theorem cols_parts : ∀ l : List UInt8, ∀ p ∈ cols l, p.length ≤ l.length := by
  intro l
  induction l with
  | nil => intro p hp; simp [cols] at hp; subst hp; exact Nat.le_refl 0
  | cons x r ih =>
    intro p hp
    unfold cols at hp
    split at hp
    · rcases List.mem_cons.1 hp with rfl | hp
      · simp
      · have := ih p hp; rw [List.length_cons]; omega
    · split at hp
      · rename_i q ps h
        rcases List.mem_cons.1 hp with rfl | hp
        · have := ih q (by rw [h]; simp); simp only [List.length_cons]; omega
        · have := ih p (by rw [h]; simp [hp]); rw [List.length_cons]; omega
      · rw [List.mem_singleton] at hp; subst hp; simp
theorem six_lim {t : List UInt8} {n : Nat} (ht : t.length ≤ 100) (h : six t = some n) : (decDigits n).length ≤ 1000 := by
  unfold six at h
  have hcl := cols_len t
  have hcp := cols_parts t
  generalize cols t = ps at h hcl hcp
  match ps, h, hcl, hcp with
  | p :: q :: ps, h, hcl, hcp =>
    have h' : (if firstD p = true then (match bareL 10 p with | some d => sixW (q :: ps) (val d) | none => none) else none) = some n := h
    cases hf : firstD p with
    | false => rw [hf, if_neg Bool.false_ne_true] at h'; cases h'
    | true =>
      rw [hf, if_pos rfl] at h'
      cases hd : bareL 10 p with
      | none => rw [hd] at h'; cases h'
      | some d =>
        rw [hd] at h'
        dsimp only at h'
        obtain ⟨e1, e2, e3, e4⟩ := bareL_ok hd
        have hp := hcp p (by simp)
        have hdl : d.length ≤ p.length := by rw [e1]; exact sift_len _
        have hv := val_lt d (goodB_digs e4)
        have h1 := sixW_lim _ _ _ h'
        have h2 : (10 : Nat) ^ d.length ≤ 10 ^ 100 := Nat.pow_le_pow_right (by decide) (by omega)
        have h3 : (100 : Nat) ^ (q :: ps).length ≤ 100 ^ 101 := Nat.pow_le_pow_right (by decide) (by rw [List.length_cons] at hcl; omega)
        have h4 : (val d + 1) * 100 ^ (q :: ps).length ≤ 10 ^ 100 * 100 ^ 101 := Nat.mul_le_mul (by omega) h3
        have h5 : (10 : Nat) ^ 100 * 100 ^ 101 ≤ 10 ^ (999 + 1) := by decide +kernel
        have h6 : n < 10 ^ (999 + 1) := Nat.lt_of_lt_of_le (Nat.lt_of_lt_of_le (Nat.lt_succ_self n) h1) (Nat.le_trans h4 h5)
        rw [decDigits_length]
        exact nDigits_le 999 _ h6
  | [], h, _, _ => cases h
  | [p], h, _, _ => cases h
end Go.Proofs.YtkijneohhilboaaGreatDoor.IntSpec
