/- Decimals of the old schema, on byte lists: what the reference computes. No conditions but sizes. -/
import Derived.Test.YtkijneohhilboaaGreatDoorIntSpec2
namespace Go.Proofs.YtkijneohhilboaaGreatDoor.FloatSpec
set_option linter.unusedSimpArgs false
set_option linter.unusedVariables false
open Go.RowKit Go.Lib Go.Proofs.YtkijneohhilboaaGreatDoor.Room Go.Proofs.YtkijneohhilboaaGreatDoor.PK Go.Proofs.YtkijneohhilboaaGreatDoorW.PrintWords Go.Proofs.YtkijneohhilboaaGreatDoor.Aid Go.Proofs.YtkijneohhilboaaGreatDoor.Num Go.Proofs.YtkijneohhilboaaGreatDoor.BigFns Go.Proofs.YtkijneohhilboaaGreatDoor.BigQ Go.Proofs.YtkijneohhilboaaGreatDoor.RefBig Go.Proofs.YtkijneohhilboaaGreatDoor.DecSpec Go.Proofs.YtkijneohhilboaaGreatDoor.NumSpec Go.Proofs.YtkijneohhilboaaGreatDoor.IntSpec
abbrev D6 := Int × Bool × ByteArray × ByteArray × Int
def zero6 : D6 := (0, false, ⟨#[]⟩, ⟨#[]⟩, 0)
def isG (x : UInt8) : Bool := isD x || x == 95
/-- a power with its sign, or none -/
def expo11 (t : List UInt8) : Option Int := match t with
  | [] => some 0
  | x :: r => if (x = 101 ∨ x = 69) ∧ (sg r).1 ≠ [] ∧ okD (sg r).2 = true then some (sv r) else none
/-- the whole part -/
def whole11 (w : List UInt8) : Option (List UInt8 × Int) := if firstD w = true then (match bareL 10 w with | some d => some (d, 1) | none => (six w).map fun n => (decDigits n, 3)) else none
def six5 (r : D5) (form : Int) : D6 := (r.1, r.2.1, r.2.2.1, r.2.2.2.1, form)
def dec11 (neg : Bool) (w rest : List UInt8) : D6 := match expo11 (rest.dropWhile isG) with
  | none => zero6
  | some z =>
    if w = [] then (if sift (rest.takeWhile isG) = [] then zero6 else six5 (makeN neg (sift (rest.takeWhile isG)) (z - (sift (rest.takeWhile isG)).length)) 2) else
    match whole11 w with
    | none => zero6
    | some (d, form) => if form = 3 ∧ rest.dropWhile isG ≠ [] then zero6 else six5 (makeN neg (d ++ sift (rest.takeWhile isG)) (z - (sift (rest.takeWhile isG)).length)) form
/-- what is ahead of the first point, and behind it -/
def cut46 : List UInt8 → Option (List UInt8 × List UInt8)
  | [] => none
  | x :: r => if x = 46 then some ([], r) else (cut46 r).map fun p => (x :: p.1, p.2)
def float11 (l : List UInt8) : D6 :=
  if infW (sg l).2 = true then (1, (sg l).1 == [45], ⟨#[]⟩, ⟨#[]⟩, 4) else
  if nanW (sg l).2 = true ∧ (sg l).1 = [] then (2, false, ⟨#[]⟩, ⟨#[]⟩, 5) else
  match cut46 (sg l).2 with
  | none => zero6
  | some (w, rest) => dec11 ((sg l).1 == [45]) w rest
theorem cut46_some : ∀ {l w r : List UInt8}, cut46 l = some (w, r) → l = w ++ 46 :: r ∧ 46 ∉ w
  | [], w, r, h => by cases h
  | x :: l, w, r, h => by
    unfold cut46 at h
    by_cases hx : x = 46
    · rw [if_pos hx] at h
      obtain ⟨rfl, rfl⟩ := Prod.mk.inj (Option.some.inj h)
      exact ⟨by rw [hx]; rfl, by simp⟩
    · rw [if_neg hx] at h
      obtain ⟨p, hp, e⟩ := Option.map_eq_some_iff.1 h
      obtain ⟨rfl, rfl⟩ := Prod.mk.inj e
      obtain ⟨h1, h2⟩ := cut46_some (w := p.1) (r := p.2) hp
      exact ⟨by rw [h1]; rfl, fun q => by
        rcases List.mem_cons.1 q with e | e
        · exact hx e.symm
        · exact h2 e⟩
theorem cut46_none : ∀ {l : List UInt8}, cut46 l = none → 46 ∉ l
  | [], h => by simp
  | x :: l, h => by
    unfold cut46 at h
    by_cases hx : x = 46
    · rw [if_pos hx] at h; cases h
    · rw [if_neg hx] at h
      have := cut46_none (Option.map_eq_none_iff.1 h)
      intro q
      rcases List.mem_cons.1 q with e | e
      · exact hx e.symm
      · exact this e
theorem find46 (t : List UInt8) : (cut46 t = none ∧ findL 46 t = -1) ∨ ∃ w r, cut46 t = some (w, r) ∧ t = w ++ 46 :: r ∧ findL 46 t = w.length := by
  cases h : cut46 t with
  | none => exact .inl ⟨rfl, by unfold findL; rw [if_neg (cut46_none h)]⟩
  | some p =>
    obtain ⟨h1, h2⟩ := cut46_some (w := p.1) (r := p.2) h
    refine .inr ⟨p.1, p.2, rfl, h1, ?_⟩
    unfold findL
    rw [if_pos (by rw [h1]; simp), h1, List.takeWhile_append_of_pos (fun y hy => bne_iff_ne.2 (fun e' => h2 (by rw [← e']; exact hy))), List.takeWhile_cons, if_neg (by decide), List.append_nil]
theorem isdig_eq (x : UInt8) : targumref4_IsDigit.f (x.toNat : Int) = some (isD x) := by
  unfold targumref4_IsDigit.f isD
  by_cases h48 : 48 ≤ x.toNat
  · rw [if_pos (by omega)]
    congr 1
    rw [Bool.eq_iff_iff, decide_eq_true_iff, decide_eq_true_iff]
    omega
  · rw [if_neg (by omega), decide_eq_false (by omega)]
theorem tw_len' (p : UInt8 → Bool) (l : List UInt8) : (l.takeWhile p).length + (l.dropWhile p).length = l.length := by
  rw [← List.length_append, List.takeWhile_append_dropWhile]
theorem take_tw' (p : UInt8 → Bool) (l : List UInt8) : l.take (l.takeWhile p).length = l.takeWhile p := by
  have h := List.takeWhile_append_dropWhile (p := p) (l := l)
  generalize l.takeWhile p = a at *
  rw [← h]; exact List.take_left' rfl
theorem drop_tw' (p : UInt8 → Bool) (l : List UInt8) : l.drop (l.takeWhile p).length = l.dropWhile p := by
  have h := List.takeWhile_append_dropWhile (p := p) (l := l)
  generalize l.takeWhile p = a at *
  generalize l.dropWhile p = b at *
  rw [← h]; exact List.drop_left' rfl
theorem digV10 {x : UInt8} (h : isD x = true) : digV x < 10 := by
  have : 48 ≤ x.toNat ∧ x.toNat ≤ 57 := of_decide_eq_true h
  unfold digV
  rw [if_pos this]; omega
theorem row_ok (l : List UInt8) : okG 10 (l.takeWhile isG) = true := by
  unfold okG
  rw [List.all_eq_true]
  intro x hx
  have := List.all_eq_true.1 (List.all_takeWhile (p := isG) (l := l)) x hx
  unfold isG at this
  rcases Bool.or_eq_true _ _ ▸ this with q | q
  · rw [decide_eq_true (digV10 q), Bool.or_true]
  · rw [q]; rfl
/-- the digits behind the point -/
theorem row_bare (l : List UInt8) : bareR 10 (l.takeWhile isG) = (txt (sift (l.takeWhile isG)), decide (sift (l.takeWhile isG) ≠ [])) := by
  unfold bareR bareL
  by_cases h : sift (l.takeWhile isG) = []
  · rw [if_neg (fun q => q.2 h), h]; rfl
  · rw [if_pos ⟨row_ok l, h⟩, decide_eq_true h]
theorem row_digs (l : List UInt8) : Digs (sift (l.takeWhile isG)) := by
  intro x hx
  obtain ⟨h1, h2⟩ := List.mem_filter.1 hx
  have := List.all_eq_true.1 (List.all_takeWhile (p := isG) (l := l)) x h1
  unfold isG at this
  rcases Bool.or_eq_true _ _ ▸ this with q | q
  · exact (of_decide_eq_true q : 48 ≤ x.toNat ∧ x.toNat ≤ 57)
  · rw [beq_iff_eq.1 q] at h2; cases h2
end Go.Proofs.YtkijneohhilboaaGreatDoor.FloatSpec
