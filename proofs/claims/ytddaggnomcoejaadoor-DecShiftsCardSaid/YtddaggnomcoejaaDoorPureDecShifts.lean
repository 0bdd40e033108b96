/- The pure law DecShifts: noughts at either end say nothing; the point may be moved. No conditions. -/
import Derived.Test.YtddaggnomcoejaaDoorDecLaw2
import Derived.Test.YtddaggnomcoejaaDoorPDx12
namespace Go.Proofs.YtddaggnomcoejaaDoor.Pure
set_option linter.unusedSimpArgs false
set_option linter.unusedVariables false
open Go.RowKit Go.Lib Go.Proofs.YtddaggnomcoejaaDoor.Room Go.Proofs.YtddaggnomcoejaaDoor.PD Go.Proofs.YtddaggnomcoejaaDoorW.PrintWords Go.Proofs.YtddaggnomcoejaaDoor.Aid Go.Proofs.YtddaggnomcoejaaDoor.Num Go.Proofs.YtddaggnomcoejaaDoor.BigFns Go.Proofs.YtddaggnomcoejaaDoor.BigQ Go.Proofs.YtddaggnomcoejaaDoor.RefBig Go.Proofs.YtddaggnomcoejaaDoor.DecSpec
theorem shifts_l0 (s t : ByteArray) (hst : 1 ≤ s.size + t.size) (hs : s.size ≤ 40) (ht : t.size ≤ 40) (neg : Bool) (E x : Int) (hE0 : -2147483648 ≤ E) (hE1 : E ≤ 2147483647) (N : Nat) (hN : Int.tmod x 9 = N) (hN9 : N < 9) : ∀ (d r i : Nat), i + d = N → 150000 + d ≤ r → targumlaw5_DecShifts.l0 r s t neg E x (txt (zs i)) (i : Int) = some true
  | 0, r, i, hi, hr => by
    obtain ⟨r, rfl⟩ : ∃ q, r = q + 1 := ⟨r - 1, by omega⟩
    have hA : (digL s.data.toList).length = s.size := by rw [digL_length, ← Lib.size_eq]
    have hB : (digL t.data.toList).length = t.size := by rw [digL_length, ← Lib.size_eq]
    have gA := digL_digs s.data.toList
    have gB := digL_digs t.data.toList
    have hEl : (decDigits E.natAbs).length ≤ 13 := by rw [decDigits_length]; exact nDigits_le 12 _ (by omega)
    have il := itoa_len E
    simp only [targumlaw5_DecShifts.l0]
    rw [hN, wrap_id (x := (N : Int)) (by omega) (by omega), if_neg (by omega), digits5 s (by omega) _ (by omega), digits5 t (by omega) _ (by omega)]
    obtain ⟨A, hAe⟩ : ∃ A, digL s.data.toList = A := ⟨_, rfl⟩
    obtain ⟨B, hBe⟩ : ∃ B, digL t.data.toList = B := ⟨_, rfl⟩
    rw [hAe] at hA gA ⊢
    rw [hBe] at hB gB ⊢
    have gAB : Digs (A ++ B) := gA.append gB
    have nAB : A ++ B ≠ [] := fun e => by
      have := congrArg List.length e
      rw [List.length_append, hA, hB, List.length_nil] at this
      omega
    simp only [Option.bind_some, num_zero, wrap_id (x := E) (by omega) (by omega)]
    rw [rAdd_eq 0 E (by omega) (by omega) (by rw [show (0 : Int).natAbs = 0 from rfl, dec_zero]; simp) r (by rw [show (0 : Int).natAbs = 0 from rfl, dec_zero]; simp only [List.length_singleton]; omega), Int.zero_add]
    simp only [Option.bind_some]
    obtain ⟨R, hR⟩ : ∃ R, makeN neg (A ++ B) (E - (B.length : Int)) = R := ⟨_, rfl⟩
    obtain ⟨R1, R2, R3, R4⟩ := makeN_good neg (A ++ B) gAB (E - (B.length : Int))
    have Rs := makeN_size neg (A ++ B) (E - (B.length : Int)) (by rw [List.length_append]; omega)
    have Es := num_len_add E (-(B.length : Int)) (by omega)
    rw [show E + -(B.length : Int) = E - (B.length : Int) by omega] at Es
    rw [hR] at R1 R2 R3 R4 Rs
    have addE : ∀ δ : Int, δ.natAbs ≤ 1000 → (itoa (E + δ)).length ≤ 100 := fun δ h => by have := num_len_add E δ (by omega); omega
    rw [Make_yes neg A B E (by omega) (by omega) (by omega) gAB nAB r (by omega), hR]
    simp only [Option.bind_some, txt_size, zs_length, app_txt]
    rw [if_pos (by omega), if_pos (by omega)]
    have e2 : makeN neg (zs i ++ A ++ (B ++ zs i)) (E - ((B ++ zs i).length : Int)) = R := by
      rw [show zs i ++ A ++ (B ++ zs i) = zs i ++ (A ++ B) ++ zs i by simp only [List.append_assoc], makeN_pad, ← hR, List.length_append, zs_length]
      congr 1
      omega
    rw [Make_yes neg (zs i ++ A) (B ++ zs i) E (by rw [List.length_append, zs_length]; omega) (by rw [List.length_append, zs_length]; omega) (by omega) (((zs_digs i).append gA).append (gB.append (zs_digs i))) (fun e => nAB (by
      have h1 := (List.append_eq_nil_iff.1 e).1
      have h2 := (List.append_eq_nil_iff.1 e).2
      rw [(List.append_eq_nil_iff.1 h1).2, (List.append_eq_nil_iff.1 h2).1]; rfl)) r (by omega), e2]
    simp only [Option.bind_some]
    rw [if_pos (by omega), wrap_id (x := -(B.length : Int)) (by omega) (by omega), rAdd_eq E (-(B.length : Int)) (by omega) (by omega) (by omega) r (by omega)]
    simp only [Option.bind_some, nil_txt]
    have e3 : makeN neg (A ++ B ++ []) (E + -(B.length : Int) - (([] : List UInt8).length : Int)) = R := by
      rw [List.append_nil, ← hR]
      congr 1
      simp only [List.length_nil]; omega
    rw [Make_yes neg (A ++ B) [] (E + -(B.length : Int)) (by rw [List.length_append]; omega) (by simp) (by have := addE (-(B.length : Int)) (by omega); omega) (by rw [List.append_nil]; exact gAB) (by rw [List.append_nil]; exact nAB) r (by omega), e3]
    simp only [Option.bind_some]
    rw [rAdd_eq E (A.length : Int) (by omega) (by omega) (by omega) r (by omega)]
    simp only [Option.bind_some]
    have e4 : makeN neg ([] ++ (A ++ B)) (E + (A.length : Int) - ((A ++ B).length : Int)) = R := by
      rw [List.nil_append, ← hR, List.length_append]
      congr 1
      omega
    rw [Make_yes neg [] (A ++ B) (E + (A.length : Int)) (by simp) (by rw [List.length_append]; omega) (by have := addE (A.length : Int) (by omega); omega) gAB nAB r (by omega), e4]
    simp only [Option.bind_some]
    rw [if_pos (by rw [List.length_append]; omega), wrap_id (x := -(B.length : Int) - (i : Int)) (by omega) (by omega), rAdd_eq E (-(B.length : Int) - (i : Int)) (by omega) (by omega) (by omega) r (by omega)]
    simp only [Option.bind_some]
    have e5 : makeN neg (A ++ B ++ zs i ++ []) (E + (-(B.length : Int) - (i : Int)) - (([] : List UInt8).length : Int)) = R := by
      have h := makeN_pad neg 0 i (A ++ B) (E + (-(B.length : Int) - (i : Int)) - (([] : List UInt8).length : Int))
      rw [show zs 0 ++ (A ++ B) ++ zs i = A ++ B ++ zs i ++ [] by rw [List.append_nil]; rfl] at h
      rw [h, ← hR]
      congr 1
      simp only [List.length_nil]; omega
    rw [Make_yes neg (A ++ B ++ zs i) [] (E + (-(B.length : Int) - (i : Int))) (by rw [List.length_append, List.length_append, zs_length]; omega) (by simp) (by have := addE (-(B.length : Int) - (i : Int)) (by omega); omega) (by rw [List.append_nil]; exact gAB.append (zs_digs i)) (fun e => nAB (by rw [List.append_nil] at e; exact (List.append_eq_nil_iff.1 e).1)) r (by omega), e5]
    simp only [Option.bind_some, R3, if_true, beq_self_eq_true, Bool.and_self]
    have hlen : (A ++ B).length = A.length + B.length := List.length_append
    obtain ⟨b, b1, _, b3⟩ := goods_both R.1 R.2.1 R.2.2.1 R.2.2.2.1 (by omega) (by omega) r (by omega)
    rw [b1, b3.2 R4]
    simp only [Option.bind_some, if_true]
    rw [R1, R2]
    simp
  | d + 1, r, i, hi, hr => by
    obtain ⟨r, rfl⟩ : ∃ q, r = q + 1 := ⟨r - 1, by omega⟩
    simp only [targumlaw5_DecShifts.l0]
    rw [hN, wrap_id (x := (N : Int)) (by omega) (by omega), if_pos (by omega), txt_size, zs_length, if_pos (by omega), wrap_id (x := (i : Int) + 1) (by omega) (by omega)]
    have := shifts_l0 s t hst hs ht neg E x hE0 hE1 N hN hN9 d r (i + 1) (by omega) (by omega)
    rw [show (⟨#[48]⟩ : ByteArray) = txt [48] from rfl, app_txt, ← zs_succ, show (i : Int) + 1 = ((i + 1 : Nat) : Int) by omega]
    exact this
theorem DecShifts : targumlaw5_DecShifts.Pure := by
  intro s t neg E x _ _ hE hx
  have hx' : (decide (IntKind.u8.min ≤ x) && decide (x ≤ IntKind.u8.max)) = true := hx
  rw [Bool.and_eq_true, decide_eq_true_eq, decide_eq_true_eq] at hx'
  have x0 : (0 : Int) ≤ x := hx'.1
  have hE' : (decide (IntKind.i32.min ≤ E) && decide (E ≤ IntKind.i32.max)) = true := hE
  rw [Bool.and_eq_true, decide_eq_true_eq, decide_eq_true_eq] at hE'
  have E0 : (-2147483648 : Int) ≤ E := by have := hE'.1; simpa [IntKind.min, IntKind.signed, IntKind.bits] using this
  have E1 : E ≤ 2147483647 := by have := hE'.2; simpa [IntKind.max, IntKind.signed, IntKind.bits] using this
  obtain ⟨M, hM⟩ : ∃ M, M = 150000 := ⟨_, rfl⟩
  refine ⟨M + 11 + 1, ?_⟩
  unfold targumlaw5_DecShifts.f
  have hk := known5 (M + 11 + 1) (by omega)
  rw [hk, Option.bind_some, if_pos rfl]
  have J1 : targumlaw5_DecShifts.j0 (M + 11 + 1) s t neg E x true = some true := by simp only [targumlaw5_DecShifts.j0, if_true]
  by_cases c1 : wrap64 ((s.size : Int) + (t.size : Int)) < 1
  · rw [if_pos c1]; exact J1
  · rw [if_neg c1]
    by_cases c2 : (s.size : Int) > 40
    · rw [if_pos c2]; exact J1
    · rw [if_neg c2]
      by_cases c3 : (t.size : Int) > 40
      · rw [decide_eq_true c3]; exact J1
      · rw [decide_eq_false c3]
        rw [wrap_id (by omega) (by omega)] at c1
        show targumlaw5_DecShifts.j0 (M + 11 + 1) s t neg E x false = some true
        have t0 : 0 ≤ Int.tmod x 9 := Int.tmod_nonneg _ x0
        have t1 : Int.tmod x 9 < 9 := Int.tmod_lt_of_pos _ (by decide)
        obtain ⟨N, hN⟩ : ∃ N : Nat, Int.tmod x 9 = N := ⟨(Int.tmod x 9).toNat, by omega⟩
        have := shifts_l0 s t (by omega) (by omega) (by omega) neg E x E0 E1 N hN (by omega) N (M + 11) 0 (by omega) (by omega)
        simp only [targumlaw5_DecShifts.j0, Bool.false_eq_true, if_false]
        exact this
end Go.Proofs.YtddaggnomcoejaaDoor.Pure
