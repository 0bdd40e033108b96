/- The encoding that bytes are in: layer 1's and its reference's answers are one. No conditions but bytes. -/
import Derived.Test.YtmpdggphhhljhaaDoorUtfSpec4
import Derived.Test.YtmpdggphhhljhaaDoorPTx3
import Derived.Test.YtmpdggphhhljhaaDoorPTx6
namespace Go.Proofs.YtmpdggphhhljhaaDoor.UtfSpec
set_option linter.unusedSimpArgs false
set_option linter.unusedVariables false
open Go.RowKit Go.Proofs.YtmpdggphhhljhaaDoor.PT Go.Proofs.YtmpdggphhhljhaaDoorW.PrintWords Go.Proofs.YtmpdggphhhljhaaDoor.Aid Go.Proofs.YtmpdggphhhljhaaDoor.BrkFns
/-- what the first four bytes say; -1: there is none -/
def d7 (w x y : Int) : Int × Int := if w = 239 ∧ x = 187 ∧ y = 191 then (1, 3) else (1, 0)
def d6 (w x y : Int) : Int × Int := if w > 0 ∧ x = 0 then (3, 0) else d7 w x y
def d5 (w x y : Int) : Int × Int := if w = 255 ∧ x = 254 then (3, 2) else d6 w x y
def d4 (w x y : Int) : Int × Int := if w = 0 ∧ x > 0 then (2, 0) else d5 w x y
def d3 (w x y : Int) : Int × Int := if w = 254 ∧ x = 255 then (2, 2) else d4 w x y
def d2 (w x y z : Int) : Int × Int := if w > 0 ∧ x = 0 ∧ y = 0 ∧ z = 0 then (5, 0) else d3 w x y
def d1 (w x y z : Int) : Int × Int := if w = 255 ∧ x = 254 ∧ y = 0 ∧ z = 0 then (5, 4) else d2 w x y z
def d0 (w x y z : Int) : Int × Int := if w = 0 ∧ x = 0 ∧ y = 0 ∧ z > 0 then (4, 0) else d1 w x y z
def dd (w x y z : Int) : Int × Int := if w = 0 ∧ x = 0 ∧ y = 254 ∧ z = 255 then (4, 4) else d0 w x y z
theorem rj7 (k : Nat) (w x y : Int) (b : Bool) : targumref1_Detect.j7 (k + 1) w x y b = some (if b = true then (3, 0) else d7 w x y) := by
  simp only [targumref1_Detect.j7]
  unfold d7
  by_cases hb : b = true
  · rw [if_pos hb, if_pos hb]
  · rw [if_neg hb, if_neg hb]
    by_cases h1 : w = 239
    · rw [if_pos h1]
      by_cases h2 : x = 187
      · rw [if_pos h2]
        by_cases h3 : y = 191
        · rw [if_pos h3, if_pos ⟨h1, h2, h3⟩]
        · rw [if_neg h3, if_neg (fun q => h3 q.2.2)]
      · rw [if_neg h2, if_neg (fun q => h2 q.2.1)]
    · rw [if_neg h1, if_neg (fun q => h1 q.1)]
theorem rj6 (k : Nat) (w x y : Int) (b : Bool) : targumref1_Detect.j6 (k + 2) w x y b = some (if b = true then (3, 2) else d6 w x y) := by
  simp only [targumref1_Detect.j6, rj7]
  unfold d6
  by_cases hb : b = true
  · rw [if_pos hb, if_pos hb]
  · rw [if_neg hb, if_neg hb]
    by_cases h1 : w > 0
    · by_cases h2 : x = 0
      · rw [if_pos h1, if_pos (beq_iff_eq.2 h2), if_pos ⟨h1, h2⟩]
      · rw [if_pos h1, if_neg (fun q => h2 (beq_iff_eq.1 q)), if_neg (fun q => h2 q.2)]
    · rw [if_neg h1, if_neg Bool.false_ne_true, if_neg (fun q => h1 q.1)]
theorem rj5 (k : Nat) (w x y : Int) (b : Bool) : targumref1_Detect.j5 (k + 3) w x y b = some (if b = true then (2, 0) else d5 w x y) := by
  simp only [targumref1_Detect.j5, rj6]
  unfold d5
  by_cases hb : b = true
  · rw [if_pos hb, if_pos hb]
  · rw [if_neg hb, if_neg hb]
    by_cases h1 : w = 255
    · by_cases h2 : x = 254
      · rw [if_pos h1, if_pos (beq_iff_eq.2 h2), if_pos ⟨h1, h2⟩]
      · rw [if_pos h1, if_neg (fun q => h2 (beq_iff_eq.1 q)), if_neg (fun q => h2 q.2)]
    · rw [if_neg h1, if_neg Bool.false_ne_true, if_neg (fun q => h1 q.1)]
theorem rj4 (k : Nat) (w x y : Int) (b : Bool) : targumref1_Detect.j4 (k + 4) w x y b = some (if b = true then (2, 2) else d4 w x y) := by
  simp only [targumref1_Detect.j4, rj5]
  unfold d4
  by_cases hb : b = true
  · rw [if_pos hb, if_pos hb]
  · rw [if_neg hb, if_neg hb]
    by_cases h1 : w = 0
    · by_cases h2 : x > 0
      · rw [if_pos h1, if_pos (decide_eq_true h2), if_pos ⟨h1, h2⟩]
      · rw [if_pos h1, if_neg (fun q => h2 (of_decide_eq_true q)), if_neg (fun q => h2 q.2)]
    · rw [if_neg h1, if_neg Bool.false_ne_true, if_neg (fun q => h1 q.1)]
theorem rj3 (k : Nat) (w x y : Int) (b : Bool) : targumref1_Detect.j3 (k + 5) w x y b = some (if b = true then (5, 0) else d3 w x y) := by
  simp only [targumref1_Detect.j3, rj4]
  unfold d3
  by_cases hb : b = true
  · rw [if_pos hb, if_pos hb]
  · rw [if_neg hb, if_neg hb]
    by_cases h1 : w = 254
    · by_cases h2 : x = 255
      · rw [if_pos h1, if_pos (beq_iff_eq.2 h2), if_pos ⟨h1, h2⟩]
      · rw [if_pos h1, if_neg (fun q => h2 (beq_iff_eq.1 q)), if_neg (fun q => h2 q.2)]
    · rw [if_neg h1, if_neg Bool.false_ne_true, if_neg (fun q => h1 q.1)]
theorem rj2 (k : Nat) (w x y z : Int) (b : Bool) : targumref1_Detect.j2 (k + 6) w x y z b = some (if b = true then (5, 4) else d2 w x y z) := by
  simp only [targumref1_Detect.j2, rj3]
  unfold d2
  by_cases hb : b = true
  · rw [if_pos hb, if_pos hb]
  · rw [if_neg hb, if_neg hb]
    by_cases h1 : w > 0
    · by_cases h2 : x = 0
      · by_cases h3 : y = 0
        · by_cases h4 : z = 0
          · rw [if_pos h1, if_pos h2, if_pos h3, if_pos (beq_iff_eq.2 h4), if_pos ⟨h1, h2, h3, h4⟩]
          · rw [if_pos h1, if_pos h2, if_pos h3, if_neg (fun q => h4 (beq_iff_eq.1 q)), if_neg (fun q => h4 q.2.2.2)]
        · rw [if_pos h1, if_pos h2, if_neg h3, if_neg Bool.false_ne_true, if_neg (fun q => h3 q.2.2.1)]
      · rw [if_pos h1, if_neg h2, if_neg Bool.false_ne_true, if_neg (fun q => h2 q.2.1)]
    · rw [if_neg h1, if_neg Bool.false_ne_true, if_neg (fun q => h1 q.1)]
theorem rj1 (k : Nat) (w x y z : Int) (b : Bool) : targumref1_Detect.j1 (k + 7) w x y z b = some (if b = true then (4, 0) else d1 w x y z) := by
  simp only [targumref1_Detect.j1, rj2]
  unfold d1
  by_cases hb : b = true
  · rw [if_pos hb, if_pos hb]
  · rw [if_neg hb, if_neg hb]
    by_cases h1 : w = 255
    · by_cases h2 : x = 254
      · by_cases h3 : y = 0
        · by_cases h4 : z = 0
          · rw [if_pos h1, if_pos h2, if_pos h3, if_pos (beq_iff_eq.2 h4), if_pos ⟨h1, h2, h3, h4⟩]
          · rw [if_pos h1, if_pos h2, if_pos h3, if_neg (fun q => h4 (beq_iff_eq.1 q)), if_neg (fun q => h4 q.2.2.2)]
        · rw [if_pos h1, if_pos h2, if_neg h3, if_neg Bool.false_ne_true, if_neg (fun q => h3 q.2.2.1)]
      · rw [if_pos h1, if_neg h2, if_neg Bool.false_ne_true, if_neg (fun q => h2 q.2.1)]
    · rw [if_neg h1, if_neg Bool.false_ne_true, if_neg (fun q => h1 q.1)]
theorem rj0 (k : Nat) (w x y z : Int) (b : Bool) : targumref1_Detect.j0 (k + 8) w x y z b = some (if b = true then (4, 4) else d0 w x y z) := by
  simp only [targumref1_Detect.j0, rj1]
  unfold d0
  by_cases hb : b = true
  · rw [if_pos hb, if_pos hb]
  · rw [if_neg hb, if_neg hb]
    by_cases h1 : w = 0
    · by_cases h2 : x = 0
      · by_cases h3 : y = 0
        · by_cases h4 : z > 0
          · rw [if_pos h1, if_pos h2, if_pos h3, if_pos (decide_eq_true h4), if_pos ⟨h1, h2, h3, h4⟩]
          · rw [if_pos h1, if_pos h2, if_pos h3, if_neg (fun q => h4 (of_decide_eq_true q)), if_neg (fun q => h4 q.2.2.2)]
        · rw [if_pos h1, if_pos h2, if_neg h3, if_neg Bool.false_ne_true, if_neg (fun q => h3 q.2.2.1)]
      · rw [if_pos h1, if_neg h2, if_neg Bool.false_ne_true, if_neg (fun q => h2 q.2.1)]
    · rw [if_neg h1, if_neg Bool.false_ne_true, if_neg (fun q => h1 q.1)]
/-- byte i, or -1 -/
def atI (l : List Int) (i : Nat) : Int := l.getD i (-1)
theorem at_eq (l : List Int) (h : isB l) (i : Nat) (hz : l.length ≤ 1000000000) : targumref1_at.f l (i : Int) = some (atI l i) := by
  unfold targumref1_at.f atI
  rw [List.getD_eq_getElem?_getD]
  by_cases hi : (i : Int) ≥ (l.length : Int)
  · rw [if_pos hi, List.getElem?_eq_none (by omega)]; rfl
  · have hlt : i < l.length := by omega
    rw [if_neg hi, if_pos (by omega), if_pos (by omega), List.getElem?_eq_getElem hlt]
    have hb := h l[i] (List.getElem_mem hlt)
    have hr : rd l (i : Int) = l[i] := by
      unfold rd
      rw [Int.toNat_natCast, List.getD_eq_getElem?_getD, List.getElem?_eq_getElem hlt]; rfl
    rw [hr, wrap_id (by omega) (by omega)]; rfl
theorem rDetect_eq (k : Nat) (hk : 9 ≤ k) (l : List Int) (h : isB l) (hz : l.length ≤ 1000000000) : targumref1_Detect.f k l = some (dd (atI l 0) (atI l 1) (atI l 2) (atI l 3)) := by
  obtain ⟨k, rfl⟩ : ∃ j, k = j + 8 := ⟨k - 8, by omega⟩
  unfold targumref1_Detect.f
  have e0 := at_eq l h 0 hz; have e1 := at_eq l h 1 hz; have e2 := at_eq l h 2 hz; have e3 := at_eq l h 3 hz
  rw [show ((0 : Nat) : Int) = 0 from rfl] at e0
  rw [show ((1 : Nat) : Int) = 1 from rfl] at e1
  rw [show ((2 : Nat) : Int) = 2 from rfl] at e2
  rw [show ((3 : Nat) : Int) = 3 from rfl] at e3
  rw [e0, e1, e2, e3]
  simp only [Option.bind_some, rj0]
  generalize atI l 0 = w; generalize atI l 1 = x; generalize atI l 2 = y; generalize atI l 3 = z
  unfold dd
  by_cases h1 : w = 0
  · by_cases h2 : x = 0
    · by_cases h3 : y = 254
      · by_cases h4 : z = 255
        · rw [if_pos h1, if_pos h2, if_pos h3, if_pos (beq_iff_eq.2 h4), if_pos ⟨h1, h2, h3, h4⟩]
        · rw [if_pos h1, if_pos h2, if_pos h3, if_neg (fun q => h4 (beq_iff_eq.1 q)), if_neg (fun q => h4 q.2.2.2)]
      · rw [if_pos h1, if_pos h2, if_neg h3, if_neg Bool.false_ne_true, if_neg (fun q => h3 q.2.2.1)]
    · rw [if_pos h1, if_neg h2, if_neg Bool.false_ne_true, if_neg (fun q => h2 q.2.1)]
  · rw [if_neg h1, if_neg Bool.false_ne_true, if_neg (fun q => h1 q.1)]
end Go.Proofs.YtmpdggphhhljhaaDoor.UtfSpec
