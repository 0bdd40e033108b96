/- Whole numbers of the old schema, on byte lists: what the reference computes. No conditions but sizes. -/
import Derived.Test.YtkijneohhilboaaGreatDoorSigns
namespace Go.Proofs.YtkijneohhilboaaGreatDoor.IntSpec
set_option linter.unusedSimpArgs false
set_option linter.unusedVariables false
open Go.RowKit Go.Lib Go.Proofs.YtkijneohhilboaaGreatDoor.Room Go.Proofs.YtkijneohhilboaaGreatDoor.PK Go.Proofs.YtkijneohhilboaaGreatDoorW.PrintWords Go.Proofs.YtkijneohhilboaaGreatDoor.Aid Go.Proofs.YtkijneohhilboaaGreatDoor.Num Go.Proofs.YtkijneohhilboaaGreatDoor.BigFns Go.Proofs.YtkijneohhilboaaGreatDoor.BigQ Go.Proofs.YtkijneohhilboaaGreatDoor.RefBig Go.Proofs.YtkijneohhilboaaGreatDoor.DecSpec Go.Proofs.YtkijneohhilboaaGreatDoor.NumSpec
/-- without its _ -/
def sift (l : List UInt8) : List UInt8 := l.filter fun x => x != 95
def okG (B : Nat) (l : List UInt8) : Bool := l.all fun x => x == 95 || decide (digV x < B)
def bareL (B : Nat) (l : List UInt8) : Option (List UInt8) := if okG B l = true ∧ sift l ≠ [] then some (sift l) else none
def bareR (B : Nat) (l : List UInt8) : ByteArray × Bool := match bareL B l with | some d => (txt d, true) | none => (⟨#[]⟩, false)
theorem sift_cons (x : UInt8) (l : List UInt8) : sift (x :: l) = if x = 95 then sift l else x :: sift l := by
  unfold sift
  rw [List.filter_cons]
  by_cases h : x = 95
  · rw [if_pos h, if_neg (by simp [h])]
  · rw [if_neg h, if_pos (by simp [h])]
theorem okG_cons (B : Nat) (x : UInt8) (l : List UInt8) : okG B (x :: l) = ((x == 95 || decide (digV x < B)) && okG B l) := rfl
theorem bt_mid (a : List UInt8) (x : UInt8) (r : List UInt8) : bt (txt (a ++ x :: r)) (a.length : Int) = (x.toNat : Int) := by
  rw [bt_nat, txt_list, ba_append_right _ (Nat.le_refl _), Nat.sub_self]; rfl
theorem bz_snoc (l : List UInt8) (x : UInt8) : bz l ++ [(x.toNat : Int)] = bz (l ++ [x]) := by unfold bz; rw [List.map_append]; rfl
theorem bz_length (l : List UInt8) : (bz l).length = l.length := List.length_map ..
theorem sift_len (l : List UInt8) : (sift l).length ≤ l.length := List.length_filter_le _ _
theorem bareL_ok {B : Nat} {l d : List UInt8} (h : bareL B l = some d) : d = sift l ∧ okG B l = true ∧ d ≠ [] ∧ goodB B d = true := by
  unfold bareL at h
  split at h
  · rename_i hc
    obtain rfl := Option.some.inj h
    refine ⟨rfl, hc.1, hc.2, List.all_eq_true.2 fun x hx => ?_⟩
    obtain ⟨h1, h2⟩ := List.mem_filter.1 hx
    have := List.all_eq_true.1 hc.1 x h1
    rcases Bool.or_eq_true _ _ ▸ this with q | q
    · rw [beq_iff_eq.1 q] at h2; cases h2
    · exact q
  · cases h
theorem goodB_digs {d : List UInt8} (h : goodB 10 d = true) : Digs d := by
  intro x hx
  have := of_decide_eq_true (p := digV x < 10) (List.all_eq_true.1 h x hx)
  unfold digV at this
  by_cases q : 48 ≤ x.toNat ∧ x.toNat ≤ 57
  · exact q
  · rw [if_neg q] at this
    by_cases q2 : 97 ≤ x.toNat ∧ x.toNat ≤ 102
    · rw [if_pos q2] at this; omega
    · rw [if_neg q2] at this
      by_cases q3 : 65 ≤ x.toNat ∧ x.toNat ≤ 70
      · rw [if_pos q3] at this; omega
      · rw [if_neg q3] at this; omega

/-! ### parts between colons -/
/-- where a sign stands first; -1: nowhere -/
def findL (c : UInt8) (l : List UInt8) : Int := if c ∈ l then ((l.takeWhile (· != c)).length : Int) else -1
/-- the parts between the colons -/
def cols : List UInt8 → List (List UInt8)
  | [] => [[]]
  | x :: r => if x = 58 then [] :: cols r else match cols r with | p :: ps => (x :: p) :: ps | [] => [[x]]
theorem cols_ne : ∀ l, cols l ≠ [] := by
  intro l
  cases l with
  | nil => simp [cols]
  | cons x r => unfold cols; split; simp; split <;> simp
theorem cols_head : ∀ l : List UInt8, (58 ∉ l → cols l = [l]) ∧ (∀ p q, l = p ++ 58 :: q → 58 ∉ p → cols l = p :: cols q) := by
  intro l
  induction l with
  | nil => exact ⟨fun _ => rfl, fun p q h _ => by simp at h⟩
  | cons x r ih =>
    refine ⟨fun h => ?_, fun p q h hp => ?_⟩
    · have hx : ¬ x = 58 := fun e => h (by simp [e])
      have hr : 58 ∉ r := fun e => h (by simp [e])
      unfold cols
      rw [if_neg hx, ih.1 hr]
    · cases p with
      | nil =>
        rw [List.nil_append] at h
        obtain ⟨rfl, rfl⟩ := List.cons.inj h
        rw [cols, if_pos rfl]
      | cons y p =>
        rw [List.cons_append] at h
        obtain ⟨rfl, h2⟩ := List.cons.inj h
        have hx : ¬ x = 58 := fun e => hp (by simp [e])
        rw [cols, if_neg hx, ih.2 p q h2 (fun e => hp (by simp [e]))]
def okPart (p : List UInt8) : Bool := okD p && (decide (p.length < 2) || (p.length == 2 && decide ((p.headD 0).toNat ≤ 53)))
/-- the number of parts, each sixty times what is behind it -/
def sixW : List (List UInt8) → Nat → Option Nat
  | [], n => some n
  | p :: ps, n => if okPart p = true then sixW ps (n * 60 + val p) else none
def isD' (x : UInt8) : Bool := decide (48 ≤ x.toNat ∧ x.toNat ≤ 57)
def firstD : List UInt8 → Bool
  | x :: _ => isD' x
  | [] => false
def sixP : List (List UInt8) → Option Nat
  | p :: q :: ps => if firstD p = true then (match bareL 10 p with | some d => sixW (q :: ps) (val d) | none => none) else none
  | _ => none
def six (t : List UInt8) : Option Nat := sixP (cols t)
end Go.Proofs.YtkijneohhilboaaGreatDoor.IntSpec
