/- The pure law BigBases: one number's digits of the bases 2, 8 and 16 say one number. No conditions. -/
import Derived.Test.YtddaggnomcoejaaDoorBigBase
import Derived.Laws.BitsAllLaws
import Derived.Test.YtddaggnomcoejaaDoorPQx5
namespace Go.Proofs.YtddaggnomcoejaaDoor.Pure
set_option linter.unusedSimpArgs false
set_option linter.unusedVariables false
open Go.RowKit Go.Lib Go.Proofs.YtddaggnomcoejaaDoor.Room Go.Proofs.YtddaggnomcoejaaDoor.PQ Go.Proofs.YtddaggnomcoejaaDoorW.PrintWords Go.Proofs.YtddaggnomcoejaaDoorW.PrintLast Go.Proofs.YtddaggnomcoejaaDoor.Aid Go.Proofs.YtddaggnomcoejaaDoor.Num Go.Proofs.YtddaggnomcoejaaDoor.BigFns Go.Proofs.YtddaggnomcoejaaDoor.BigQ
theorem bval_cons (B : Nat) (x : UInt8) : ∀ (n : Nat) (l : List UInt8), l.length = n → bval B (x :: l) = digV x * B ^ n + bval B l
  | 0, l, h => by
    have : l = [] := List.length_eq_zero_iff.1 h
    subst this
    simp [bval]
  | n + 1, l, h => by
    have hne : l ≠ [] := fun e => by rw [e] at h; simp at h
    obtain ⟨l', y, rfl⟩ : ∃ l' y, l = l' ++ [y] := ⟨l.dropLast, l.getLast hne, (List.dropLast_concat_getLast hne).symm⟩
    have ih := bval_cons B x n l' (by rw [List.length_append, List.length_singleton] at h; omega)
    rw [← List.cons_append, bval_snoc, bval_snoc, ih, Nat.add_mul, Nat.pow_succ, Nat.mul_assoc, Nat.add_assoc]
/-- the last i digits of a number, to a base -/
structure IsD (B n i : Nat) (l : List UInt8) : Prop where
  len : l.length = i
  dig : ∀ x ∈ l, digV x < B
  val : bval B l = n % B ^ i
theorem IsD.nil (B n : Nat) : IsD B n 0 [] := ⟨rfl, fun x hx => (List.not_mem_nil hx).elim, by simp [bval, Nat.mod_one]⟩
theorem IsD.cons {B n i : Nat} {l : List UInt8} (h : IsD B n i l) (hB : 0 < B) (x : UInt8) (hx : digV x = n / B ^ i % B) : IsD B n (i + 1) (x :: l) := by
  refine ⟨by rw [List.length_cons, h.len], fun y hy => ?_, ?_⟩
  · rcases List.mem_cons.1 hy with rfl | hy
    · rw [hx]; exact Nat.mod_lt _ hB
    · exact h.dig y hy
  · rw [bval_cons B x i l h.len, h.val, hx, Nat.mod_pow_succ, Nat.add_comm, Nat.mul_comm]
theorem mask (n e i : Nat) (hn : n < 18446744073709551616) (he : e * i ≤ 64) (he4 : e ≤ 32) : bits .and .u64 (shr .u64 (n : Int) ((e * i : Nat) : Int)) ((2 ^ e - 1 : Nat) : Int) = ((n / (2 ^ e) ^ i % 2 ^ e : Nat) : Int) := by
  have h1 : shr .u64 (n : Int) ((e * i : Nat) : Int) = ((n / (2 ^ e) ^ i : Nat) : Int) := by
    unfold shr
    rw [Int.toNat_natCast, show IntKind.bits .u64 = 64 from rfl, Nat.min_eq_left he, ← Nat.pow_mul]
    simp
  have h2 : 2 ^ e - 1 < 18446744073709551616 := by
    have : 2 ^ e ≤ 2 ^ 32 := Nat.pow_le_pow_right (by decide) he4
    omega
  rw [h1, u64_and_nat _ _ (Nat.lt_of_le_of_lt (Nat.div_le_self _ _) hn) h2, Nat.and_two_pow_sub_one_eq_mod]
theorem str_one (v : Int) (l : List UInt8) : strOfNums [v] ++ txt l = txt (UInt8.ofNat v.toNat :: l) := by
  apply ext_list
  rw [append_list, strOfNums_data, txt_list, txt_list]
  rfl
theorem dig_small {v : Nat} (h : v ≤ 9) : digV (UInt8.ofNat (48 + v)) = v := by
  unfold digV
  rw [show (UInt8.ofNat (48 + v)).toNat = 48 + v by rw [UInt8.toNat_ofNat']; omega, if_pos (by omega)]
  omega
theorem dig_up {v : Nat} (h : 10 ≤ v) (h' : v ≤ 15) : digV (UInt8.ofNat (55 + v)) = v := by
  unfold digV
  rw [show (UInt8.ofNat (55 + v)).toNat = 55 + v by rw [UInt8.toNat_ofNat']; omega, if_neg (by omega), if_neg (by omega), if_pos (by omega)]
  omega
theorem dig_low {v : Nat} (h : 10 ≤ v) (h' : v ≤ 15) : digV (UInt8.ofNat (87 + v)) = v := by
  unfold digV
  rw [show (UInt8.ofNat (87 + v)).toNat = 87 + v by rw [UInt8.toNat_ofNat']; omega, if_neg (by omega), if_pos (by omega)]
  omega
theorem w64 {x : Int} (h0 : 0 ≤ x) (h1 : x < 18446744073709551616) : IntKind.u64.wrap x = x := by
  have e : IntKind.u64.wrap x = x % 18446744073709551616 := by simp [IntKind.wrap, IntKind.bits, IntKind.signed]
  rw [e]; omega
theorem bases_fin (n : Nat) (hn : n < 18446744073709551616) (up : Bool) (T E S : List UInt8) (hT : IsD 2 n 64 T) (hE : IsD 8 n 22 E) (hS : IsD 16 n 16 S) (r : Nat) (hr : 600 ≤ r) :
    targumlaw4_BigBases.l2 r n up (txt T) (txt E) (txt S) 16 = some true := by
  obtain ⟨r, rfl⟩ : ∃ q, r = q + 1 := ⟨r - 1, by omega⟩
  have b2 := Base_eq 2 (by decide) T (fun e => by have := hT.len; rw [e] at this; simp at this) (by have := hT.len; omega) hT.dig r (by omega)
  have b8 := Base_eq 8 (by decide) E (fun e => by have := hE.len; rw [e] at this; simp at this) (by have := hE.len; omega) hE.dig r (by omega)
  have b16 := Base_eq 16 (by decide) S (fun e => by have := hS.len; rw [e] at this; simp at this) (by have := hS.len; omega) hS.dig r (by omega)
  have p2 : n < 2 ^ 64 := by rw [show (2 : Nat) ^ 64 = 18446744073709551616 by decide]; exact hn
  have p8 : n < 8 ^ 22 := Nat.lt_of_lt_of_le hn (by decide)
  have p16 : n < 16 ^ 16 := by rw [show (16 : Nat) ^ 16 = 18446744073709551616 by decide]; exact hn
  rw [hT.val, Nat.mod_eq_of_lt p2] at b2
  rw [hE.val, Nat.mod_eq_of_lt p8] at b8
  rw [hS.val, Nat.mod_eq_of_lt p16] at b16
  rw [show ((2 : Nat) : Int) = 2 from rfl] at b2
  rw [show ((8 : Nat) : Int) = 8 from rfl] at b8
  rw [show ((16 : Nat) : Int) = 16 from rfl] at b16
  obtain ⟨Q, hQ⟩ : ∃ Q : Nat, Q = 10 ^ (99 + 1) := ⟨_, rfl⟩
  have hPQ : 100000000000000000000000 ≤ Q := by rw [hQ]; decide
  have hm : bits .and .u64 (n : Int) 4294967295 = ((n % 4294967296 : Nat) : Int) := by
    have h1 := u64_and_nat n 4294967295 hn (by decide)
    have h2 : n &&& 4294967295 = n % 4294967296 := by
      have := Nat.and_two_pow_sub_one_eq_mod n 32
      rw [show (2 : Nat) ^ 32 - 1 = 4294967295 by decide, show (2 : Nat) ^ 32 = 4294967296 by decide] at this
      exact this
    rw [h2] at h1
    rw [← h1]
    rfl
  simp only [targumlaw4_BigBases.l2]
  rw [if_neg (by decide), b2]
  simp only [Option.bind_some]
  obtain ⟨D, hD⟩ : ∃ D : Int, (n : Int) / 4294967296 = D := ⟨_, rfl⟩
  obtain ⟨R, hR⟩ : ∃ R : Int, ((n % 4294967296 : Nat) : Int) = R := ⟨_, rfl⟩
  have hDR : (n : Int) = D * 4294967296 + R := by omega
  have hD0 : 0 ≤ D := by omega
  have hD1 : D ≤ 4294967296 := by omega
  have hR0 : 0 ≤ R := by omega
  have hR1 : R ≤ 4294967296 := by omega
  have hDa : (0 + D).natAbs < Q := by
    have : (0 + D).natAbs ≤ 4294967296 := by omega
    exact Nat.lt_of_le_of_lt this (Nat.lt_of_lt_of_le (by decide) hPQ)
  obtain ⟨U, hU⟩ : ∃ U : Int, 4294967296 = U := ⟨_, rfl⟩
  have hU0 : 0 ≤ U := by omega
  have hU1 : U ≤ 1099511627776 := by omega
  have hZ : (0 + D) * U + 0 + R = (n : Int) := by rw [← hU]; omega
  have hZa : ((0 + D) * U + 0).natAbs < Q := by
    have : ((0 + D) * U + 0).natAbs ≤ 18446744073709551616 := by rw [← hU]; omega
    exact Nat.lt_of_le_of_lt this (Nat.lt_of_lt_of_le (by decide) hPQ)
  rw [hm, hR, hD, wrap_id (x := D) (by omega) (by omega), wrap_id (x := R) (by omega) (by omega), num_zero, AddQ hQ (z := 0) (by rw [hQ]; decide) (by omega) (by omega) (by omega)]
  simp only [Option.bind_some]
  rw [hU, MulQ hQ (z := 0 + D) (m := U) (c := 0) (by omega) hDa hU0 hU1 (by omega) (by omega) (by omega)]
  simp only [Option.bind_some]
  rw [AddQ hQ hZa (by omega) (by omega) (by omega)]
  simp only [Option.bind_some]
  rw [if_neg (by rw [num_nat, txt_toList]; exact dec_ne n), b8]
  simp only [Option.bind_some]
  rw [if_pos True.intro, b16]
  simp only [Option.bind_some]
  rw [if_pos True.intro, hZ, beq_self_eq_true]
theorem bases_l2 (n : Nat) (hn : n < 18446744073709551616) (up : Bool) (T E : List UInt8) (hT : IsD 2 n 64 T) (hE : IsD 8 n 22 E) : ∀ (d r i : Nat) (S : List UInt8), i + d = 16 → IsD 16 n i S → 700 + d ≤ r →
    targumlaw4_BigBases.l2 r n up (txt T) (txt E) (txt S) (i : Int) = some true
  | 0, r, i, S, hi, hS, hr => by
    have e : i = 16 := by omega
    subst e
    exact bases_fin n hn up T E S hT hE hS r (by omega)
  | d + 1, r, i, S, hi, hS, hr => by
    obtain ⟨r, rfl⟩ : ∃ q, r = q + 1 := ⟨r - 1, by omega⟩
    have hm := mask n 4 i hn (by omega) (by decide)
    rw [show ((2 ^ 4 - 1 : Nat) : Int) = 15 from rfl, show ((4 * i : Nat) : Int) = 4 * (i : Int) by omega] at hm
    obtain ⟨V, hV⟩ : ∃ V : Nat, n / (2 ^ 4) ^ i % 2 ^ 4 = V := ⟨_, rfl⟩
    have hV16 : V < 16 := by rw [← hV]; exact Nat.mod_lt _ (by decide)
    rw [hV] at hm
    have hz : (txt S).size = i := by rw [txt_size, hS.len]
    have go := fun x hx => bases_l2 n hn up T E hT hE d r (i + 1) (x :: S) (by omega) (hS.cons (by decide) x hx) (by omega)
    have hV' : n / 16 ^ i % 16 = V := hV
    rw [hV', show ((i + 1 : Nat) : Int) = (i : Int) + 1 by omega] at go
    simp only [targumlaw4_BigBases.l2]
    rw [if_pos (by omega), wrap_id (x := 4 * (i : Int)) (by omega) (by omega), w64 (by omega) (by omega), if_pos (by omega), hm, wrap_id (x := (i : Int) + 1) (by omega) (by omega), show (V : Int) % 256 = V by omega]
    simp only [Option.bind_some]
    by_cases h9 : (V : Int) > 9
    · rw [if_pos h9]
      cases up with
      | true =>
        rw [if_pos rfl, if_pos (by rw [strOfNums_size, hz]; simp; omega), str_one, show (((65 + (V : Int)) % 256 - 10) % 256).toNat = 55 + V by omega]
        exact go _ (dig_up (by omega) (by omega))
      | false =>
        rw [if_neg (by decide), if_pos (by rw [strOfNums_size, hz]; simp; omega), str_one, show (((97 + (V : Int)) % 256 - 10) % 256).toNat = 87 + V by omega]
        exact go _ (dig_low (by omega) (by omega))
    · rw [if_neg h9, if_pos (by rw [strOfNums_size, hz]; simp; omega), str_one, show ((48 + (V : Int)) % 256).toNat = 48 + V by omega]
      exact go _ (dig_small (by omega))
theorem bases_l1 (n : Nat) (hn : n < 18446744073709551616) (up : Bool) (T : List UInt8) (hT : IsD 2 n 64 T) : ∀ (d r i : Nat) (E : List UInt8), i + d = 22 → IsD 8 n i E → 800 + d ≤ r →
    targumlaw4_BigBases.l1 r n up (txt T) (txt E) (txt []) (i : Int) = some true
  | 0, r, i, E, hi, hE, hr => by
    obtain ⟨r, rfl⟩ : ∃ q, r = q + 1 := ⟨r - 1, by omega⟩
    have e : i = 22 := by omega
    subst e
    simp only [targumlaw4_BigBases.l1]
    rw [if_neg (by decide)]
    exact bases_l2 n hn up T E hT hE 16 r 0 [] (by omega) (IsD.nil _ _) (by omega)
  | d + 1, r, i, E, hi, hE, hr => by
    obtain ⟨r, rfl⟩ : ∃ q, r = q + 1 := ⟨r - 1, by omega⟩
    have hm := mask n 3 i hn (by omega) (by decide)
    rw [show ((2 ^ 3 - 1 : Nat) : Int) = 7 from rfl, show ((3 * i : Nat) : Int) = 3 * (i : Int) by omega] at hm
    obtain ⟨V, hV⟩ : ∃ V : Nat, n / (2 ^ 3) ^ i % 2 ^ 3 = V := ⟨_, rfl⟩
    have hV8 : V < 8 := by rw [← hV]; exact Nat.mod_lt _ (by decide)
    rw [hV] at hm
    have hz : (txt E).size = i := by rw [txt_size, hE.len]
    have go := fun x hx => bases_l1 n hn up T hT d r (i + 1) (x :: E) (by omega) (hE.cons (by decide) x hx) (by omega)
    have hV' : n / 8 ^ i % 8 = V := hV
    rw [hV', show ((i + 1 : Nat) : Int) = (i : Int) + 1 by omega] at go
    simp only [targumlaw4_BigBases.l1]
    rw [if_pos (by omega), wrap_id (x := 3 * (i : Int)) (by omega) (by omega), w64 (x := 3 * (i : Int)) (by omega) (by omega), if_pos (by omega), hm, wrap_id (x := (i : Int) + 1) (by omega) (by omega), w64 (x := 48 + (V : Int)) (by omega) (by omega)]
    simp only [Option.bind_some]
    rw [if_pos (by rw [strOfNums_size, hz]; simp; omega), str_one, show ((48 + (V : Int)) % 256).toNat = 48 + V by omega]
    exact go _ (dig_small (by omega))
theorem bases_l0 (n : Nat) (hn : n < 18446744073709551616) (up : Bool) : ∀ (d r i : Nat) (T : List UInt8), i + d = 64 → IsD 2 n i T → 900 + d ≤ r →
    targumlaw4_BigBases.l0 r n up (txt T) (txt []) (txt []) (i : Int) = some true
  | 0, r, i, T, hi, hT, hr => by
    obtain ⟨r, rfl⟩ : ∃ q, r = q + 1 := ⟨r - 1, by omega⟩
    have e : i = 64 := by omega
    subst e
    simp only [targumlaw4_BigBases.l0]
    rw [if_neg (by decide)]
    exact bases_l1 n hn up T hT 22 r 0 [] (by omega) (IsD.nil _ _) (by omega)
  | d + 1, r, i, T, hi, hT, hr => by
    obtain ⟨r, rfl⟩ : ∃ q, r = q + 1 := ⟨r - 1, by omega⟩
    have hm := mask n 1 i hn (by omega) (by decide)
    rw [show ((2 ^ 1 - 1 : Nat) : Int) = 1 from rfl, show ((1 * i : Nat) : Int) = (i : Int) by omega] at hm
    obtain ⟨V, hV⟩ : ∃ V : Nat, n / (2 ^ 1) ^ i % 2 ^ 1 = V := ⟨_, rfl⟩
    have hV2 : V < 2 := by rw [← hV]; exact Nat.mod_lt _ (by decide)
    rw [hV] at hm
    have hz : (txt T).size = i := by rw [txt_size, hT.len]
    have go := fun x hx => bases_l0 n hn up d r (i + 1) (x :: T) (by omega) (hT.cons (by decide) x hx) (by omega)
    have hV' : n / 2 ^ i % 2 = V := hV
    rw [hV', show ((i + 1 : Nat) : Int) = (i : Int) + 1 by omega] at go
    simp only [targumlaw4_BigBases.l0]
    rw [if_pos (by omega), w64 (x := (i : Int)) (by omega) (by omega), if_pos (by omega), hm, wrap_id (x := (i : Int) + 1) (by omega) (by omega), w64 (x := 48 + (V : Int)) (by omega) (by omega)]
    simp only [Option.bind_some]
    rw [if_pos (by rw [strOfNums_size, hz]; simp; omega), str_one, show ((48 + (V : Int)) % 256).toNat = 48 + V by omega]
    exact go _ (dig_small (by omega))
theorem txt_nil : txt [] = (⟨#[]⟩ : ByteArray) := rfl
theorem bases_all (n : Nat) (hn : n < 18446744073709551616) (up : Bool) (r : Nat) (hr : 1000 ≤ r) : targumlaw4_BigBases.f r n up = some true := by
  have h := bases_l0 n hn up 64 r 0 [] (by omega) (IsD.nil _ _) (by omega)
  rw [txt_nil, show ((0 : Nat) : Int) = 0 from rfl] at h
  unfold targumlaw4_BigBases.f
  rw [known4 r (by omega)]
  simp only [Option.bind_some, if_true]
  exact h
theorem u64_bounds {x : Int} (hx : (Lit.int .u64 x).wf = true) : 0 ≤ x ∧ x ≤ 18446744073709551615 := by
  have hx' : (decide (IntKind.u64.min ≤ x) && decide (x ≤ IntKind.u64.max)) = true := hx
  rw [Bool.and_eq_true, decide_eq_true_eq, decide_eq_true_eq] at hx'
  have x0 : (0 : Int) ≤ x := by have h := hx'.1; simp [IntKind.min, IntKind.signed, IntKind.bits] at h; exact h
  have x1 : x ≤ (18446744073709551615 : Int) := by have h := hx'.2; simp [IntKind.max, IntKind.signed, IntKind.bits] at h; exact h
  exact ⟨x0, x1⟩
theorem BigBases : targumlaw4_BigBases.Pure := by
  intro x up hx
  obtain ⟨x0, x1⟩ := u64_bounds hx
  obtain ⟨n, rfl⟩ : ∃ n : Nat, x = n := ⟨x.toNat, by omega⟩
  exact ⟨1000, bases_all n (by omega) up 1000 (Nat.le_refl _)⟩
end Go.Proofs.YtddaggnomcoejaaDoor.Pure
