/- Units written down: what layer 1 and its reference put behind a row of bytes in UTF-16 and UTF-32. No conditions but sizes. -/
import Derived.Test.YtmpdggphhhljhaaDoorUtfSpec3
import Derived.Test.YtmpdggphhhljhaaDoorPCx5
namespace Go.Proofs.YtmpdggphhhljhaaDoor.UtfSpec
set_option linter.unusedSimpArgs false
set_option linter.unusedVariables false
open Go.RowKit Go.Proofs.YtmpdggphhhljhaaDoor.PC Go.Proofs.YtmpdggphhhljhaaDoorW.PrintWords Go.Proofs.YtmpdggphhhljhaaDoor.Aid Go.Proofs.YtmpdggphhhljhaaDoor.BrkFns
def b2 (t : Bool) (c : Int) : List Int := if t = true then [c % 256, c / 256 % 256] else [c / 256 % 256, c % 256]
def b4 (t : Bool) (c : Int) : List Int := if t = true then [c % 256, c / 256 % 256, c / 65536 % 256, c / 16777216 % 256] else [c / 16777216 % 256, c / 65536 % 256, c / 256 % 256, c % 256]
theorem shr_nat (c : Int) (n : Nat) (hn : n ≤ 32) (w : Int) (hw : w = n) : shr .i32 c w = c / 2 ^ n := by
  subst hw
  unfold shr
  rw [Int.toNat_natCast, Nat.min_eq_left (by exact hn)]
theorem put_end (k : Nat) (o : List Int) (e c w n : Int) : utf_put.l0 (k + 1) o e c w n n = some o := by
  simp only [utf_put.l0]
  rw [if_neg (by omega)]
theorem put_step (k : Nat) (o : List Int) (e c w j : Int) (hj : 0 ≤ j) (hjw : j < w) (hw : w ≤ 4) (ho : o.length ≤ 1000000000) (x : Int) (n : Nat) (hn : n ≤ 32) (hp : (n : Int) = if lit e = true then 8 * j else 8 * (w - 1 - j)) (hx : c / 2 ^ n % 256 = x) :
    utf_put.l0 (k + 1) o e c w w j = utf_put.l0 k (o ++ [x]) e c w w (j + 1) := by
  simp only [utf_put.l0]
  rw [if_pos (by omega), turned_eq, Option.bind_some]
  have e1 : wrap64 (8 * j) = 8 * j := wrap_id (by omega) (by omega)
  have e2 : wrap64 (8 * wrap64 (wrap64 (w - 1) - j)) = 8 * (w - 1 - j) := by
    rw [wrap_id (x := w - 1) (by omega) (by omega), wrap_id (x := w - 1 - j) (by omega) (by omega), wrap_id (by omega) (by omega)]
  have e3 : wrap64 (j + 1) = j + 1 := wrap_id (by omega) (by omega)
  rw [e1, e2, e3]
  cases ht : lit e with
  | true =>
    rw [ht, if_pos rfl] at hp
    rw [if_pos rfl, if_pos (by omega), if_pos (by omega), shr_nat c n hn _ hp.symm, hx]
  | false =>
    rw [ht, if_neg Bool.false_ne_true] at hp
    rw [if_neg Bool.false_ne_true, if_pos (by omega), if_pos (by omega), shr_nat c n hn _ hp.symm, hx]
theorem put2 (k : Nat) (hk : 6 ≤ k) (o : List Int) (e : Int) (he : e = 2 ∨ e = 3) (c : Int) (hc : 0 ≤ c) (ho : o.length ≤ 100000000) : utf_put.f k o e c = some (o ++ b2 (lit e) c) := by
  have hw : wid e = 2 := by rcases he with rfl | rfl <;> rfl
  unfold utf_put.f
  rw [width_eq k (by omega), Option.bind_some, hw]
  obtain ⟨k, rfl⟩ : ∃ j, k = j + 3 := ⟨k - 3, by omega⟩
  unfold b2
  cases ht : lit e with
  | true =>
    rw [if_pos rfl, put_step (k + 2) o e c 2 0 (by omega) (by omega) (by omega) (by omega) (c % 256) 0 (by omega) (by rw [ht]; rfl) (by rw [Int.pow_zero, Int.ediv_one]), put_step (k + 1) _ e c 2 _ (by omega) (by omega) (by omega) (by simp only [List.length_append, List.length_cons, List.length_nil]; omega) (c / 256 % 256) 8 (by omega) (by rw [ht]; rfl) rfl, show (0 : Int) + 1 + 1 = 2 from rfl, put_end, List.append_assoc]; rfl
  | false =>
    rw [if_neg Bool.false_ne_true, put_step (k + 2) o e c 2 0 (by omega) (by omega) (by omega) (by omega) (c / 256 % 256) 8 (by omega) (by rw [ht]; rfl) rfl, put_step (k + 1) _ e c 2 _ (by omega) (by omega) (by omega) (by simp only [List.length_append, List.length_cons, List.length_nil]; omega) (c % 256) 0 (by omega) (by rw [ht]; rfl) (by rw [Int.pow_zero, Int.ediv_one]), show (0 : Int) + 1 + 1 = 2 from rfl, put_end, List.append_assoc]; rfl
theorem put4 (k : Nat) (hk : 8 ≤ k) (o : List Int) (e : Int) (he : e = 4 ∨ e = 5) (c : Int) (hc : 0 ≤ c) (ho : o.length ≤ 100000000) : utf_put.f k o e c = some (o ++ b4 (lit e) c) := by
  have hw : wid e = 4 := by rcases he with rfl | rfl <;> rfl
  unfold utf_put.f
  rw [width_eq k (by omega), Option.bind_some, hw]
  obtain ⟨k, rfl⟩ : ∃ j, k = j + 5 := ⟨k - 5, by omega⟩
  unfold b4
  have hl : ∀ q : List Int, q.length ≤ 3 → (o ++ q).length ≤ 1000000000 := fun q hq => by rw [List.length_append]; omega
  have a2 : ∀ x y : Int, o ++ [x] ++ [y] = o ++ [x, y] := fun x y => by rw [List.append_assoc]; rfl
  have a3 : ∀ x y z : Int, o ++ [x, y] ++ [z] = o ++ [x, y, z] := fun x y z => by rw [List.append_assoc]; rfl
  have a4 : ∀ x y z u : Int, o ++ [x, y, z] ++ [u] = o ++ [x, y, z, u] := fun x y z u => by rw [List.append_assoc]; rfl
  cases ht : lit e with
  | true =>
    rw [if_pos rfl, put_step (k + 4) o e c 4 0 (by omega) (by omega) (by omega) (by omega) (c % 256) 0 (by omega) (by rw [ht]; rfl) (by rw [Int.pow_zero, Int.ediv_one]), put_step (k + 3) _ e c 4 _ (by omega) (by omega) (by omega) (hl _ (by simp)) (c / 256 % 256) 8 (by omega) (by rw [ht]; rfl) rfl, a2, put_step (k + 2) _ e c 4 _ (by omega) (by omega) (by omega) (hl _ (by simp)) (c / 65536 % 256) 16 (by omega) (by rw [ht]; rfl) rfl, a3, put_step (k + 1) _ e c 4 _ (by omega) (by omega) (by omega) (hl _ (by simp)) (c / 16777216 % 256) 24 (by omega) (by rw [ht]; rfl) rfl, a4, show (0 : Int) + 1 + 1 + 1 + 1 = 4 from rfl, put_end]
  | false =>
    rw [if_neg Bool.false_ne_true, put_step (k + 4) o e c 4 0 (by omega) (by omega) (by omega) (by omega) (c / 16777216 % 256) 24 (by omega) (by rw [ht]; rfl) rfl, put_step (k + 3) _ e c 4 _ (by omega) (by omega) (by omega) (hl _ (by simp)) (c / 65536 % 256) 16 (by omega) (by rw [ht]; rfl) rfl, a2, put_step (k + 2) _ e c 4 _ (by omega) (by omega) (by omega) (hl _ (by simp)) (c / 256 % 256) 8 (by omega) (by rw [ht]; rfl) rfl, a3, put_step (k + 1) _ e c 4 _ (by omega) (by omega) (by omega) (hl _ (by simp)) (c % 256) 0 (by omega) (by rw [ht]; rfl) (by rw [Int.pow_zero, Int.ediv_one]), a4, show (0 : Int) + 1 + 1 + 1 + 1 = 4 from rfl, put_end]
/-! ### the reference's units -/
end Go.Proofs.YtmpdggphhhljhaaDoor.UtfSpec
