/- A slice of strings among the arguments of a law, opened as one list of texts with their sizes. Conditions: the argument is such a slice, and what the call is handed weighs no more than a machine holds. -/
import Derived.SliceStrings
import Derived.SizedLaws
import Derived.Test.YtkphlddgfmgogaaDoorWWords
namespace Go.Proofs.YtkphlddgfmgogaaDoor.XS
open Go.ChangeShapes Go.WideShapes Go.Proofs.YtkphlddgfmgogaaDoorW.PrintWords
theorem weigh_mem {H : Type} {P : Program} {e : TypeId} : ∀ {l : List (DataW H)} {d : DataW H}, d ∈ l → ∀ n ∈ d.weights P e, n ∈ DataW.weightsAll P e l
  | d0 :: l, d, hd, n, hn => by
    simp only [DataW.weightsAll, List.mem_append]
    rcases List.mem_cons.1 hd with rfl | h
    · exact Or.inl hn
    · exact Or.inr (weigh_mem h n hn)
theorem open_texts {H : Type} {enc : TypeId × Value → H} {P : Program} {W : World} {base : Nat} {spare : Nat → Bool} {held : Bool} {t e : TypeId} {a : Option Addr} {len cap : Nat} {d : DataW H} {ps : List MemPlace} {ts : List TypeId} {ds : List (DataW H)} {j : Nat}
    (hsz : (DataW.weightsEach P ts ds).all (· ≤ reachBytes) = true) (ht : ts[j]? = some t) (hd : ds[j]? = some d) (hu : P.underlying t = some (.slice e)) (he : P.underlying e = some .string) (hc : P.cellsOf e = 1) {B : Nat} (hB : P.bytesOf e = B)
    (h : DataW.Trod enc P W base spare held t (.slice a len cap) d ps) :
    ∃ xs : List ByteArray, xs.length = len ∧ len ≤ cap ∧ len ≤ maxLen ∧ ReadsOf Value.string ByteArray.empty W a len xs ∧ len * B ≤ 140737488351232 ∧ ∀ x ∈ xs, x.size ≤ 140737488351232 := by
  obtain ⟨fuel, hf⟩ := h
  rcases open_strings hu he hc hf with ⟨hcs, _⟩ | ⟨x, l, c, zs, hcs, _, hl, hm, hz, hx, hcell, _⟩
  · simp [Value.cells] at hcs
    obtain ⟨rfl, rfl, rfl⟩ := hcs
    exact ⟨[], rfl, Nat.le_refl _, Nat.zero_le _, ⟨rfl, by decide, fun h => absurd h (by decide)⟩, by simp, fun x hx => by cases hx⟩
  · simp [Value.cells] at hcs
    obtain ⟨rfl, rfl, rfl⟩ := hcs
    obtain ⟨hx, _⟩ := Prod.mk.inj hx
    subst hx
    have z := sized_slice hsz ht hd hu
    rw [hB] at z
    have hl2 : len ≤ zs.length := by
      rw [hz]
      split
      · exact hl
      · exact Nat.le_refl _
    have h1 : (strs (H := H) (zs.take len)).length + (strs (H := H) (zs.drop len)).length = zs.length := by
      simp [strs]
      omega
    rw [h1] at z
    have hml : len ≤ maxLen := Nat.le_trans hl hm
    have hlt : (zs.take len).length = len := by rw [List.length_take]; omega
    refine ⟨zs.take len, hlt, hl, hml, ⟨hlt, by unfold maxLen at hml; omega, fun _ => ⟨x, rfl, fun i hi => ?_⟩⟩, Nat.le_trans (Nat.mul_le_mul_right _ hl2) z, fun y hy => ?_⟩
    · rw [hcell i (by omega)]
      have : (zs.take len).getD i ByteArray.empty = zs.getD i ByteArray.empty := by
        rw [List.getD_eq_getElem?_getD, List.getD_eq_getElem?_getD, List.getElem?_take_of_lt hi]
      rw [this]
    · have hm1 : (.lit (.string y.data.toList) : DataW H) ∈ strs (H := H) (zs.take len) := List.mem_map.2 ⟨y, hy, rfl⟩
      have := List.all_eq_true.1 hsz _ (DataW.weights_mem_each ht hd y.data.toList.length (by
        simp only [DataW.weights, hu, List.mem_cons, List.mem_append]
        exact Or.inr (Or.inl (weigh_mem hm1 _ (by simp [DataW.weights])))))
      have h2 : y.data.toList.length ≤ reachBytes := by simpa using this
      rw [Array.length_toList] at h2
      exact h2
end Go.Proofs.YtkphlddgfmgogaaDoor.XS
