/- Whole numbers of the old schema, on byte lists: what the reference computes. No conditions but sizes. -/
import Derived.Test.YtkijneohhilboaaGreatDoorSigns
import Derived.Test.YtkijneohhilboaaGreatDoorPTx13
import Derived.Test.YtkijneohhilboaaGreatDoorPTx15
namespace Go.Proofs.YtkijneohhilboaaGreatDoor.IntSpec
set_option linter.unusedSimpArgs false
set_option linter.unusedVariables false
open Go.RowKit Go.Lib Go.Proofs.YtkijneohhilboaaGreatDoor.Room Go.Proofs.YtkijneohhilboaaGreatDoor.PT Go.Proofs.YtkijneohhilboaaGreatDoorW.PrintWords Go.Proofs.YtkijneohhilboaaGreatDoor.Aid Go.Proofs.YtkijneohhilboaaGreatDoor.Num Go.Proofs.YtkijneohhilboaaGreatDoor.BigFns Go.Proofs.YtkijneohhilboaaGreatDoor.BigQ Go.Proofs.YtkijneohhilboaaGreatDoor.RefBig Go.Proofs.YtkijneohhilboaaGreatDoor.DecSpec Go.Proofs.YtkijneohhilboaaGreatDoor.NumSpec
/-- without its _ -/
def sift (l : List UInt8) : List UInt8 := l.filter fun x => x != 95
def okG (B : Nat) (l : List UInt8) : Bool := l.all fun x => x == 95 || decide (digV x < B)
def bareL (B : Nat) (l : List UInt8) : Option (List UInt8) := if okG B l = true ∧ sift l ≠ [] then some (sift l) else none
def bareR (B : Nat) (l : List UInt8) : ByteArray × Bool := match bareL B l with | some d => (txt d, true) | none => (⟨#[]⟩, false)
theorem sift_cons (x : UInt8) (l : List UInt8) : sift (x :: l) = if x = 95 then sift l else x :: sift l := by
  unfold sift
  rw [List.filter_cons]
  by_cases h : x = 95
  · rw [if_pos h, if_neg (by simp [h])]
  · rw [if_neg h, if_pos (by simp [h])]
theorem okG_cons (B : Nat) (x : UInt8) (l : List UInt8) : okG B (x :: l) = ((x == 95 || decide (digV x < B)) && okG B l) := rfl
theorem bt_mid (a : List UInt8) (x : UInt8) (r : List UInt8) : bt (txt (a ++ x :: r)) (a.length : Int) = (x.toNat : Int) := by
  rw [bt_nat, txt_list, ba_append_right _ (Nat.le_refl _), Nat.sub_self]; rfl
theorem bz_snoc (l : List UInt8) (x : UInt8) : bz l ++ [(x.toNat : Int)] = bz (l ++ [x]) := by unfold bz; rw [List.map_append]; rfl
theorem bz_length (l : List UInt8) : (bz l).length = l.length := List.length_map ..
theorem sift_len (l : List UInt8) : (sift l).length ≤ l.length := List.length_filter_le _ _
theorem bare_l0 (B : Nat) (hB : B ≤ 16) (L : List UInt8) (hL : L.length ≤ 1000000) : ∀ (r pre A : List UInt8) (k : Nat), pre ++ r = L → A.length ≤ pre.length → r.length + 5 ≤ k →
    targumref6_bare.l0 k (txt L) (B : Int) (bz A) (pre.length : Int) = some (if okG B r = true then (txt (A ++ sift r), decide ((((A ++ sift r).length : Nat) : Int) > 0)) else (⟨#[]⟩, false))
  | [], pre, A, k, h, hA, hk => by
    obtain ⟨k, rfl⟩ : ∃ q, k = q + 1 := ⟨k - 1, by omega⟩
    rw [List.append_nil] at h
    subst h
    simp only [targumref6_bare.l0]
    rw [txt_size, if_neg (by omega), if_pos (show okG B [] = true from rfl), show sift [] = [] from rfl, List.append_nil, bz_str, bz_length]
  | x :: r, pre, A, k, h, hA, hk => by
    obtain ⟨k, rfl⟩ : ∃ q, k = q + 1 := ⟨k - 1, by omega⟩
    have hl : L.length = pre.length + (r.length + 1) := by rw [← h, List.length_append, List.length_cons]
    rw [List.length_cons] at hk
    simp only [targumref6_bare.l0]
    rw [txt_size, if_pos (by omega), if_pos (by omega), wrap_id (x := (pre.length : Int) + 1) (by omega) (by omega), sift_cons, okG_cons]
    have hb : bt (txt L) (pre.length : Int) = (x.toNat : Int) := by rw [← h]; exact bt_mid pre x r
    rw [hb]
    have hp : (pre.length : Int) + 1 = ((pre ++ [x]).length : Int) := by rw [List.length_append, List.length_singleton]; omega
    by_cases h95 : x = 95
    · have := bare_l0 B hB L hL r (pre ++ [x]) A k (by rw [← h]; simp) (by rw [List.length_append]; omega) (by omega)
      rw [if_pos (show (x.toNat : Int) = 95 by rw [h95]; rfl), hp, this, if_pos h95]
      rw [show (x == 95 || decide (digV x < B)) = true by rw [beq_iff_eq.2 h95]; rfl, Bool.true_and]
    · rw [if_neg (show ¬ (x.toNat : Int) = 95 from nez (n := 95) (by omega) h95), if_neg h95, beq_eq_false_iff_ne.2 h95, Bool.false_or]
      obtain ⟨v, e, hv⟩ := Value_eq x k (by omega)
      rw [e]
      simp only [Option.bind_some]
      by_cases hd : digV x < B
      · rw [if_neg (by omega), if_pos (by rw [bz_length]; omega), hp, bz_snoc, decide_eq_true hd, Bool.true_and]
        have := bare_l0 B hB L hL r (pre ++ [x]) (A ++ [x]) k (by rw [← h]; simp) (by rw [List.length_append, List.length_append]; simp; omega) (by omega)
        rw [this, show A ++ [x] ++ sift r = A ++ x :: sift r by simp]
      · rw [if_pos (by omega), decide_eq_false hd, Bool.false_and, if_neg Bool.false_ne_true]
theorem bare_eq (B : Nat) (hB : B ≤ 16) (L : List UInt8) (hL : L.length ≤ 1000000) (k : Nat) (hk : L.length + 5 ≤ k) : targumref6_bare.f k (txt L) (B : Int) = some (bareR B L) := by
  have := bare_l0 B hB L hL L [] [] k rfl (Nat.le_refl 0) hk
  unfold targumref6_bare.f
  rw [show ([] : List Int) = bz [] from rfl, show (0 : Int) = (([] : List UInt8).length : Int) from rfl, this, List.nil_append]
  unfold bareR bareL
  cases h : okG B L with
  | false => rw [if_neg Bool.false_ne_true, if_neg (by simp)]
  | true =>
    rw [if_pos rfl]
    by_cases hn : sift L = []
    · rw [hn, if_neg (by simp)]; rfl
    · rw [if_pos ⟨rfl, hn⟩, decide_eq_true]
      have := List.length_pos_iff.2 hn
      omega
theorem bareL_ok {B : Nat} {l d : List UInt8} (h : bareL B l = some d) : d = sift l ∧ okG B l = true ∧ d ≠ [] ∧ goodB B d = true := by
  unfold bareL at h
  split at h
  · rename_i hc
    obtain rfl := Option.some.inj h
    refine ⟨rfl, hc.1, hc.2, List.all_eq_true.2 fun x hx => ?_⟩
    obtain ⟨h1, h2⟩ := List.mem_filter.1 hx
    have := List.all_eq_true.1 hc.1 x h1
    rcases Bool.or_eq_true _ _ ▸ this with q | q
    · rw [beq_iff_eq.1 q] at h2; cases h2
    · exact q
  · cases h
theorem goodB_digs {d : List UInt8} (h : goodB 10 d = true) : Digs d := by
  intro x hx
  have := of_decide_eq_true (p := digV x < 10) (List.all_eq_true.1 h x hx)
  unfold digV at this
  by_cases q : 48 ≤ x.toNat ∧ x.toNat ≤ 57
  · exact q
  · rw [if_neg q] at this
    by_cases q2 : 97 ≤ x.toNat ∧ x.toNat ≤ 102
    · rw [if_pos q2] at this; omega
    · rw [if_neg q2] at this
      by_cases q3 : 65 ≤ x.toNat ∧ x.toNat ≤ 70
      · rw [if_pos q3] at this; omega
      · rw [if_neg q3] at this; omega

/-! ### parts between colons -/
/-- where a sign stands first; -1: nowhere -/
def findL (c : UInt8) (l : List UInt8) : Int := if c ∈ l then ((l.takeWhile (· != c)).length : Int) else -1
theorem find_l0 (c : UInt8) (L : List UInt8) (hL : L.length ≤ 1000000) : ∀ (r pre : List UInt8) (k : Nat), pre ++ r = L → r.length + 1 ≤ k →
    targumref6_find.l0 k (txt L) (c.toNat : Int) (pre.length : Int) = some (if c ∈ r then ((pre.length + (r.takeWhile (· != c)).length : Nat) : Int) else -1)
  | [], pre, k, h, hk => by
    obtain ⟨k, rfl⟩ : ∃ q, k = q + 1 := ⟨k - 1, by omega⟩
    rw [List.append_nil] at h
    subst h
    simp only [targumref6_find.l0]
    rw [txt_size, if_neg (by omega), if_neg (by simp)]
  | x :: r, pre, k, h, hk => by
    obtain ⟨k, rfl⟩ : ∃ q, k = q + 1 := ⟨k - 1, by omega⟩
    have hl : L.length = pre.length + (r.length + 1) := by rw [← h, List.length_append, List.length_cons]
    rw [List.length_cons] at hk
    simp only [targumref6_find.l0]
    have hb : bt (txt L) (pre.length : Int) = (x.toNat : Int) := by rw [← h]; exact bt_mid pre x r
    have hp : (pre.length : Int) + 1 = ((pre ++ [x]).length : Int) := by rw [List.length_append, List.length_singleton]; omega
    rw [txt_size, if_pos (by omega), if_pos (by omega), wrap_id (x := (pre.length : Int) + 1) (by omega) (by omega), hb, hp]
    by_cases hx : x = c
    · subst hx
      have htw : (x :: r).takeWhile (· != x) = [] := by rw [List.takeWhile_cons, if_neg (by simp)]
      rw [if_pos rfl, if_pos (show x ∈ x :: r by simp), htw]
      simp
    · have hne : ¬ (x.toNat : Int) = (c.toNat : Int) := fun e => hx (UInt8.toNat_inj.1 (by omega))
      have := find_l0 c L hL r (pre ++ [x]) k (by rw [← h]; simp) (by omega)
      have htw : (x :: r).takeWhile (· != c) = x :: r.takeWhile (· != c) := by rw [List.takeWhile_cons, if_pos (bne_iff_ne.2 hx)]
      rw [if_neg hne, this, htw]
      have hm : c ∈ x :: r ↔ c ∈ r := by rw [List.mem_cons]; exact ⟨fun q => q.resolve_left (fun e => hx e.symm), .inr⟩
      by_cases hc : c ∈ r
      · rw [if_pos hc, if_pos (hm.2 hc), List.length_append, List.length_singleton, List.length_cons]
        congr 2; omega
      · rw [if_neg hc, if_neg (fun q => hc (hm.1 q))]
theorem find_eq (c : UInt8) (L : List UInt8) (hL : L.length ≤ 1000000) (k : Nat) (hk : L.length + 1 ≤ k) : targumref6_find.f k (txt L) (c.toNat : Int) = some (findL c L) := by
  have := find_l0 c L hL L [] k rfl hk
  unfold targumref6_find.f findL
  rw [show (0 : Int) = (([] : List UInt8).length : Int) from rfl, this]
  simp
/-- the parts between the colons -/
def cols : List UInt8 → List (List UInt8)
  | [] => [[]]
  | x :: r => if x = 58 then [] :: cols r else match cols r with | p :: ps => (x :: p) :: ps | [] => [[x]]
theorem cols_ne : ∀ l, cols l ≠ [] := by
  intro l
  cases l with
  | nil => simp [cols]
  | cons x r => unfold cols; split; simp; split <;> simp
theorem cols_head : ∀ l : List UInt8, (58 ∉ l → cols l = [l]) ∧ (∀ p q, l = p ++ 58 :: q → 58 ∉ p → cols l = p :: cols q) := by
  intro l
  induction l with
  | nil => exact ⟨fun _ => rfl, fun p q h _ => by simp at h⟩
  | cons x r ih =>
    refine ⟨fun h => ?_, fun p q h hp => ?_⟩
    · have hx : ¬ x = 58 := fun e => h (by simp [e])
      have hr : 58 ∉ r := fun e => h (by simp [e])
      unfold cols
      rw [if_neg hx, ih.1 hr]
    · cases p with
      | nil =>
        rw [List.nil_append] at h
        obtain ⟨rfl, rfl⟩ := List.cons.inj h
        rw [cols, if_pos rfl]
      | cons y p =>
        rw [List.cons_append] at h
        obtain ⟨rfl, h2⟩ := List.cons.inj h
        have hx : ¬ x = 58 := fun e => hp (by simp [e])
        rw [cols, if_neg hx, ih.2 p q h2 (fun e => hp (by simp [e]))]
def okPart (p : List UInt8) : Bool := okD p && (decide (p.length < 2) || (p.length == 2 && decide ((p.headD 0).toNat ≤ 53)))
/-- the number of parts, each sixty times what is behind it -/
def sixW : List (List UInt8) → Nat → Option Nat
  | [], n => some n
  | p :: ps, n => if okPart p = true then sixW ps (n * 60 + val p) else none
def isD' (x : UInt8) : Bool := decide (48 ≤ x.toNat ∧ x.toNat ≤ 57)
def firstD : List UInt8 → Bool
  | x :: _ => isD' x
  | [] => false
def sixP : List (List UInt8) → Option Nat
  | p :: q :: ps => if firstD p = true then (match bareL 10 p with | some d => sixW (q :: ps) (val d) | none => none) else none
  | _ => none
def six (t : List UInt8) : Option Nat := sixP (cols t)
end Go.Proofs.YtkijneohhilboaaGreatDoor.IntSpec
