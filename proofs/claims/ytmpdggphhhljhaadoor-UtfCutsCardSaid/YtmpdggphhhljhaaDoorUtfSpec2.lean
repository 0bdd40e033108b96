/- What the reference of layer 1 computes: units, scalars, where texts begin. No conditions but sizes. -/
import Derived.Test.YtmpdggphhhljhaaDoorUtfSpec
namespace Go.Proofs.YtmpdggphhhljhaaDoor.UtfSpec
set_option linter.unusedSimpArgs false
set_option linter.unusedVariables false
open Go.RowKit Go.Proofs.YtmpdggphhhljhaaDoor.PC Go.Proofs.YtmpdggphhhljhaaDoorW.PrintWords Go.Proofs.YtmpdggphhhljhaaDoor.Aid Go.Proofs.YtmpdggphhhljhaaDoor.BrkFns
theorem rd_drop (l : List Int) (i : Nat) (j : Int) (hj : 0 ≤ j) : rd l ((i : Int) + j) = rd (l.drop i) j := by
  unfold rd
  rw [show ((i : Int) + j).toNat = i + j.toNat by omega, List.getD_eq_getElem?_getD, List.getD_eq_getElem?_getD, List.getElem?_drop]
theorem drop_length {l r : List Int} {i : Nat} (h : l.drop i = r) (hi : i ≤ l.length) : l.length = i + r.length := by
  rw [← h, List.length_drop]; omega
theorem rIsScalar_eq (c : Int) : targumref1_IsScalar.f c = some (isScalar c) := IsScalar_eq c
theorem nx_take4 (l : List UInt8) : nx (l.take 4) = nx l := by
  match l with
  | [] => rfl
  | [a] => rfl
  | [a, b] => rfl
  | [a, b, c] => rfl
  | a :: b :: c :: d :: r =>
    have e : ∀ n, 4 ≤ n → Lib.decodeN n a.toNat b.toNat c.toNat d.toNat = Lib.decodeN 4 a.toNat b.toNat c.toNat d.toNat := by
      intro n hn
      have c1 : (1 < n) = True := eq_true (by omega)
      have c2 : (2 < n) = True := eq_true (by omega)
      have c3 : (3 < n) = True := eq_true (by omega)
      have d1 : (1 < 4) = True := eq_true (by omega)
      have d2 : (2 < 4) = True := eq_true (by omega)
      have d3 : (3 < 4) = True := eq_true (by omega)
      simp only [Lib.decodeN, c1, c2, c3, d1, d2, d3]
    have f : ∀ (n : Nat) (q : List UInt8), nx (a :: b :: c :: d :: q) = if Lib.decodeN (q.length + 4) a.toNat b.toNat c.toNat d.toNat = (65533, 1) then (0, 0) else Lib.decodeN (q.length + 4) a.toNat b.toNat c.toNat d.toNat := fun n q => rfl
    rw [show (a :: b :: c :: d :: r).take 4 = [a, b, c, d] from rfl, f 0 r, f 0 [], e (r.length + 4) (by omega), e (([] : List UInt8).length + 4) (by simp)]
end Go.Proofs.YtmpdggphhhljhaaDoor.UtfSpec
