/- Markers, indents, blanks, and the reference's break, in plain words. No conditions. -/
import Derived.Test.YtkphlddgfmgogaaDoorBrkFns
import Derived.Test.YtkphlddgfmgogaaDoorPBx3
import Derived.Test.YtkphlddgfmgogaaDoorPBx7
namespace Go.Proofs.YtkphlddgfmgogaaDoor.BrkMarks
set_option linter.unusedSimpArgs false
set_option linter.unusedVariables false
open Go.RowKit Go.Proofs.YtkphlddgfmgogaaDoor.PB Go.Proofs.YtkphlddgfmgogaaDoorW.PrintWords Go.Proofs.YtkphlddgfmgogaaDoor.Aid Go.Proofs.YtkphlddgfmgogaaDoor.BrkFns

theorem dropWhile_nil {α : Type} {p : α → Bool} : ∀ {l : List α}, l.dropWhile p = [] ↔ ∀ x ∈ l, p x = true
  | [] => by simp
  | y :: l => by
    rw [List.dropWhile_cons]
    cases h : p y
    · simp [h]
    · simp [h, dropWhile_nil (l := l)]
theorem mem_dropWhile {α : Type} {p : α → Bool} : ∀ {l : List α} {x : α}, x ∈ l → p x = false → x ∈ l.dropWhile p
  | y :: l, x, hx, hp => by
    rw [List.dropWhile_cons]
    cases h : p y
    · simpa using hx
    · rcases List.mem_cons.1 hx with rfl | hx
      · rw [h] at hp; cases hp
      · simpa using mem_dropWhile hx hp
theorem blank_iff (l cs : List UInt8) : Lib.trimS l cs = [] ↔ ∀ x ∈ l, cs.contains x = true := by
  refine ⟨fun h x hx => ?_, fun h => ?_⟩
  · cases hc : cs.contains x
    · have m : x ∈ (l.reverse.dropWhile (cs.contains ·)).reverse := List.mem_reverse.2 (mem_dropWhile (List.mem_reverse.2 hx) hc)
      have := dropWhile_nil.1 h x m
      rw [hc] at this; cases this
    · rfl
  · unfold Lib.trimS Lib.trimLeftS Lib.trimRightS
    rw [dropWhile_nil.2 (fun x hx => h x (List.mem_reverse.1 hx))]
    rfl

/-- which marker a line of its own is: 1 "---", 2 "..." -/
def markS (l : List UInt8) : Int :=
  if 3 < l.length ∧ ba l 3 ≠ 32 ∧ ba l 3 ≠ 9 then 0
  else if ([45, 45, 45] : List UInt8).isPrefixOf l = true then 1 else if ([46, 46, 46] : List UInt8).isPrefixOf l = true then 2 else 0
/-- does it hold spaces and tabs alone? -/
def blankS (l : List UInt8) : Bool := l.all fun b => b == 32 || b == 9
/-- how many spaces stand ahead -/
def leadS (l : List UInt8) : Int := ((l.takeWhile fun b => b == 32).length : Int)

theorem Marker_says (k : Nat) (hk : 1 ≤ k) (s t : ByteArray) (v : Bool) (a b c : Int) (h : brk_says.f s a b c = some (t, v)) : brk_Marker.f k s a b c = some (markS t.data.toList) := by
  obtain ⟨k, rfl⟩ : ∃ m, k = m + 1 := ⟨k - 1, by omega⟩
  unfold brk_Marker.f markS
  rw [h]
  simp only [Option.bind_some, brk_Marker.j0, hasPrefix_eq]
  have e3 : bt t 3 = ba t.data.toList 3 := bt_nat t 3
  rw [e3, ← Lib.size_eq]
  have fin : (if ([45, 45, 45] : List UInt8).isPrefixOf t.data.toList = true then some 1 else if ([46, 46, 46] : List UInt8).isPrefixOf t.data.toList = true then some 2 else some 0) =
      some (if ([45, 45, 45] : List UInt8).isPrefixOf t.data.toList = true then (1 : Int) else if ([46, 46, 46] : List UInt8).isPrefixOf t.data.toList = true then 2 else 0) := by
    split
    · rfl
    · split <;> rfl
  have no : ∀ hc : ¬ (3 < t.size ∧ ba t.data.toList 3 ≠ 32 ∧ ba t.data.toList 3 ≠ 9), (if ([45, 45, 45] : List UInt8).isPrefixOf t.data.toList = true then some 1 else if ([46, 46, 46] : List UInt8).isPrefixOf t.data.toList = true then some 2 else some 0) =
      some (if 3 < t.size ∧ ba t.data.toList 3 ≠ 32 ∧ ba t.data.toList 3 ≠ 9 then (0 : Int) else if ([45, 45, 45] : List UInt8).isPrefixOf t.data.toList = true then (1 : Int) else if ([46, 46, 46] : List UInt8).isPrefixOf t.data.toList = true then 2 else 0) := fun hc => by
    rw [if_neg hc]; exact fin
  by_cases h3 : (t.size : Int) > 3
  · rw [if_pos h3, if_pos (show (3 : Int) < (t.size : Int) by omega)]
    by_cases e32 : ba t.data.toList 3 = 32
    · rw [if_pos e32, if_neg (show ¬ (false = true) by decide)]; exact no (fun q => q.2.1 e32)
    · rw [if_neg e32]
      by_cases e9 : ba t.data.toList 3 = 9
      · rw [if_neg (show ¬ ((ba t.data.toList 3 != 9) = true) by simp [e9])]; exact no (fun q => q.2.2 e9)
      · rw [if_pos (show ((ba t.data.toList 3 != 9) = true) by simp [e9]), if_pos ⟨by omega, e32, e9⟩]
  · rw [if_neg h3, if_neg (show ¬ (false = true) by decide)]; exact no (fun q => h3 (by omega))

theorem lead_drop : ∀ l : List UInt8, ((l.dropWhile (([32] : List UInt8).contains ·)).length : Int) = (l.length : Int) - leadS l
  | [] => rfl
  | b :: l => by
    have ih := lead_drop l
    unfold leadS at ih ⊢
    rw [List.dropWhile_cons, List.takeWhile_cons]
    by_cases h : b = 32
    · subst h
      simp at ih ⊢
      omega
    · simp [h]
theorem leadS_le (l : List UInt8) : 0 ≤ leadS l ∧ leadS l ≤ l.length := by
  have := lead_drop l
  unfold leadS at this ⊢
  omega
theorem Indent_says (s t : ByteArray) (v : Bool) (a b c : Int) (hs : t.size ≤ 4611686018427387904) (h : brk_says.f s a b c = some (t, v)) : brk_Indent.f s a b c = some (leadS t.data.toList) := by
  unfold brk_Indent.f strings_TrimLeft.f
  rw [h]
  simp only [Option.bind_some]
  rw [if_pos ⟨by decide, by decide, by omega⟩]
  simp only [Option.bind_some, Option.some.injEq]
  have e := lead_drop t.data.toList
  have hl := leadS_le t.data.toList
  have hz : (ByteArray.size ⟨(Lib.trimLeftS t.data.toList ([32] : List UInt8)).toArray⟩ : Int) = (t.data.toList.length : Int) - leadS t.data.toList := by
    rw [← e, Lib.size_eq]; rfl
  change wrap64 ((t.size : Int) - (ByteArray.size ⟨(Lib.trimLeftS t.data.toList ([32] : List UInt8)).toArray⟩ : Int)) = _
  rw [hz, ← Lib.size_eq]
  rw [← Lib.size_eq] at hl
  rw [wrap_id (by omega) (by omega)]
  omega
theorem Blank_says (s t : ByteArray) (v : Bool) (a b c : Int) (hs : t.size ≤ 4611686018427387904) (h : brk_says.f s a b c = some (t, v)) : brk_Blank.f s a b c = some (v && blankS t.data.toList) := by
  unfold brk_Blank.f strings_Trim.f
  rw [h]
  simp only [Option.bind_some]
  cases v
  · rfl
  · rw [if_pos rfl, if_pos ⟨by decide, by decide, by omega⟩]
    simp only [Option.bind_some, Option.some.injEq, Bool.true_and]
    rw [Bool.eq_iff_iff, beq_iff_eq]
    have := blank_iff t.data.toList [32, 9]
    unfold blankS
    rw [List.all_eq_true]
    have e : (ByteArray.toList ⟨(Lib.trimS t.data.toList ([32, 9] : List UInt8)).toArray⟩) = Lib.trimS t.data.toList ([32, 9] : List UInt8) := Lib.toList_data _
    change ByteArray.toList ⟨(Lib.trimS t.data.toList ([32, 9] : List UInt8)).toArray⟩ = [] ↔ _
    rw [e, this]
    exact forall_congr' fun x => forall_congr' fun _ => by simp

theorem says_whole (s : ByteArray) : brk_says.f s 0 s.size s.size = some (s, true) := by
  unfold brk_says.f
  rw [if_neg (by omega), if_neg (by omega), if_neg (by omega), if_neg (by omega), if_pos (by omega), if_pos (by omega), if_pos (by omega)]
  congr 2
  apply ext_list
  rw [Int.toNat_natCast]
  exact extract_end s 0
theorem Marker_whole (k : Nat) (s : ByteArray) : brk_Marker.f (k + 1) s 0 s.size s.size = some (markS s.data.toList) := Marker_says (k + 1) (by omega) s s true _ _ _ (says_whole s)
theorem Indent_whole (s : ByteArray) (hs : s.size ≤ 4611686018427387904) : brk_Indent.f s 0 s.size s.size = some (leadS s.data.toList) := Indent_says s s true _ _ _ hs (says_whole s)
theorem Blank_whole (s : ByteArray) (hs : s.size ≤ 4611686018427387904) : brk_Blank.f s 0 s.size s.size = some (blankS s.data.toList) := by
  have := Blank_says s s true _ _ _ hs (says_whole s)
  rwa [Bool.true_and] at this

/-- the reference's break tells something, everywhere -/
theorem RefBreak_some (k : Nat) (hk : 13 ≤ k) (v : Int) (s : ByteArray) (hs : s.size ≤ 140737488351232) (i : Int) (h0 : 0 ≤ i) (h1 : i < s.size) : ∃ r, targumref1_Break.f k v s i = some r := by
  obtain ⟨k, rfl⟩ : ∃ m, k = m + 3 := ⟨k - 3, by omega⟩
  unfold targumref1_Break.f
  rw [if_neg (by omega), decide_eq_false (by omega)]
  have j2 : ∀ x b, ∃ r, targumref1_Break.j2 (k + 1) x s i b = some r := fun x b => by
    simp only [targumref1_Break.j2]
    rw [Next_eq k (by omega) s hs i]
    simp only [Option.bind_some]
    repeat' split
    all_goals exact ⟨_, rfl⟩
  have j1 : ∀ x b, ∃ r, targumref1_Break.j1 (k + 2) x s i b = some r := fun x b => by
    simp only [targumref1_Break.j1]
    rw [if_pos h0, if_pos h1]
    repeat' split
    all_goals first | exact ⟨_, rfl⟩ | exact j2 _ _
  simp only [targumref1_Break.j0]
  rw [if_neg (by decide), if_pos h0, if_pos h1, wrap_id (by omega) (by omega), if_pos (show 0 ≤ i + 1 by omega)]
  repeat' split
  all_goals exact j1 _ _
end Go.Proofs.YtkphlddgfmgogaaDoor.BrkMarks
