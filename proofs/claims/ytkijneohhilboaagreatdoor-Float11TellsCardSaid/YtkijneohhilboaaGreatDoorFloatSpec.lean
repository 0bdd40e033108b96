/- Decimals of the old schema, on byte lists: what the reference computes. No conditions but sizes. -/
import Derived.Test.YtkijneohhilboaaGreatDoorIntSpec2
import Derived.Test.YtkijneohhilboaaGreatDoorPTx14
import Derived.Test.YtkijneohhilboaaGreatDoorPTx16
namespace Go.Proofs.YtkijneohhilboaaGreatDoor.FloatSpec
set_option linter.unusedSimpArgs false
set_option linter.unusedVariables false
open Go.RowKit Go.Lib Go.Proofs.YtkijneohhilboaaGreatDoor.Room Go.Proofs.YtkijneohhilboaaGreatDoor.PT Go.Proofs.YtkijneohhilboaaGreatDoorW.PrintWords Go.Proofs.YtkijneohhilboaaGreatDoor.Aid Go.Proofs.YtkijneohhilboaaGreatDoor.Num Go.Proofs.YtkijneohhilboaaGreatDoor.BigFns Go.Proofs.YtkijneohhilboaaGreatDoor.BigQ Go.Proofs.YtkijneohhilboaaGreatDoor.RefBig Go.Proofs.YtkijneohhilboaaGreatDoor.DecSpec Go.Proofs.YtkijneohhilboaaGreatDoor.NumSpec Go.Proofs.YtkijneohhilboaaGreatDoor.IntSpec
abbrev D6 := Int × Bool × ByteArray × ByteArray × Int
def zero6 : D6 := (0, false, ⟨#[]⟩, ⟨#[]⟩, 0)
def isG (x : UInt8) : Bool := isD x || x == 95
/-- a power with its sign, or none -/
def expo11 (t : List UInt8) : Option Int := match t with
  | [] => some 0
  | x :: r => if (x = 101 ∨ x = 69) ∧ (sg r).1 ≠ [] ∧ okD (sg r).2 = true then some (sv r) else none
/-- the whole part -/
def whole11 (w : List UInt8) : Option (List UInt8 × Int) := if firstD w = true then (match bareL 10 w with | some d => some (d, 1) | none => (six w).map fun n => (decDigits n, 3)) else none
def six5 (r : D5) (form : Int) : D6 := (r.1, r.2.1, r.2.2.1, r.2.2.2.1, form)
def dec11 (neg : Bool) (w rest : List UInt8) : D6 := match expo11 (rest.dropWhile isG) with
  | none => zero6
  | some z =>
    if w = [] then (if sift (rest.takeWhile isG) = [] then zero6 else six5 (makeN neg (sift (rest.takeWhile isG)) (z - (sift (rest.takeWhile isG)).length)) 2) else
    match whole11 w with
    | none => zero6
    | some (d, form) => if form = 3 ∧ rest.dropWhile isG ≠ [] then zero6 else six5 (makeN neg (d ++ sift (rest.takeWhile isG)) (z - (sift (rest.takeWhile isG)).length)) form
/-- what is ahead of the first point, and behind it -/
def cut46 : List UInt8 → Option (List UInt8 × List UInt8)
  | [] => none
  | x :: r => if x = 46 then some ([], r) else (cut46 r).map fun p => (x :: p.1, p.2)
def float11 (l : List UInt8) : D6 :=
  if infW (sg l).2 = true then (1, (sg l).1 == [45], ⟨#[]⟩, ⟨#[]⟩, 4) else
  if nanW (sg l).2 = true ∧ (sg l).1 = [] then (2, false, ⟨#[]⟩, ⟨#[]⟩, 5) else
  match cut46 (sg l).2 with
  | none => zero6
  | some (w, rest) => dec11 ((sg l).1 == [45]) w rest
theorem cut46_some : ∀ {l w r : List UInt8}, cut46 l = some (w, r) → l = w ++ 46 :: r ∧ 46 ∉ w
  | [], w, r, h => by cases h
  | x :: l, w, r, h => by
    unfold cut46 at h
    by_cases hx : x = 46
    · rw [if_pos hx] at h
      obtain ⟨rfl, rfl⟩ := Prod.mk.inj (Option.some.inj h)
      exact ⟨by rw [hx]; rfl, by simp⟩
    · rw [if_neg hx] at h
      obtain ⟨p, hp, e⟩ := Option.map_eq_some_iff.1 h
      obtain ⟨rfl, rfl⟩ := Prod.mk.inj e
      obtain ⟨h1, h2⟩ := cut46_some (w := p.1) (r := p.2) hp
      exact ⟨by rw [h1]; rfl, fun q => by
        rcases List.mem_cons.1 q with e | e
        · exact hx e.symm
        · exact h2 e⟩
theorem cut46_none : ∀ {l : List UInt8}, cut46 l = none → 46 ∉ l
  | [], h => by simp
  | x :: l, h => by
    unfold cut46 at h
    by_cases hx : x = 46
    · rw [if_pos hx] at h; cases h
    · rw [if_neg hx] at h
      have := cut46_none (Option.map_eq_none_iff.1 h)
      intro q
      rcases List.mem_cons.1 q with e | e
      · exact hx e.symm
      · exact this e
theorem find46 (t : List UInt8) : (cut46 t = none ∧ findL 46 t = -1) ∨ ∃ w r, cut46 t = some (w, r) ∧ t = w ++ 46 :: r ∧ findL 46 t = w.length := by
  cases h : cut46 t with
  | none => exact .inl ⟨rfl, by unfold findL; rw [if_neg (cut46_none h)]⟩
  | some p =>
    obtain ⟨h1, h2⟩ := cut46_some (w := p.1) (r := p.2) h
    refine .inr ⟨p.1, p.2, rfl, h1, ?_⟩
    unfold findL
    rw [if_pos (by rw [h1]; simp), h1, List.takeWhile_append_of_pos (fun y hy => bne_iff_ne.2 (fun e' => h2 (by rw [← e']; exact hy))), List.takeWhile_cons, if_neg (by decide), List.append_nil]
theorem rtail11 (t : List UInt8) (hs : t.length ≤ 1000) (k : Nat) (hk : 2000 ≤ k) : targumref6_tail.f k (txt t) false = some (match expo11 t with | some z => (num z, true) | none => ((⟨#[]⟩ : ByteArray), false)) := by
  obtain ⟨k, rfl⟩ : ∃ j, k = j + 1 := ⟨k - 1, by omega⟩
  cases t with
  | nil => unfold targumref6_tail.f; rw [txt_toList, if_pos rfl, num_zero]; rfl
  | cons x r =>
    have hl : (1 : Int) ≤ ((x :: r).length : Int) := by rw [List.length_cons]; omega
    have hr : r.length ≤ 1000 := by rw [List.length_cons] at hs; omega
    have hsg := sg_len r
    have hlen : (((sg r).2.length : Int) = ((x :: r).length : Int) - 1) ↔ (sg r).1 = [] := by
      have ha := congrArg List.length (sg_app r)
      rw [List.length_append] at ha
      rw [List.length_cons]
      constructor
      · intro q; exact List.length_eq_zero_iff.1 (by omega)
      · intro q; rw [q] at ha; simp at ha; omega
    have J : targumref6_tail.j0 (k + 1) (txt (x :: r)) false false = some (if (sg r).1 ≠ [] ∧ okD (sg r).2 = true then (num (sv r), true) else (⟨#[]⟩, false)) := by
      simp only [targumref6_tail.j0, Bool.false_eq_true, if_false]
      rw [txt_size, if_pos hl, ← txt_size (x :: r), extract_one, rsign_eq]
      simp only [Option.bind_some, txt_size]
      rw [wrap_id (x := ((x :: r).length : Int) - 1) (by omega) (by rw [List.length_cons]; omega)]
      by_cases hg : (sg r).1 = []
      · rw [if_pos (hlen.2 hg), if_neg (fun q => q.1 hg)]
      · rw [if_neg (fun q => hg (hlen.1 q)), rDigits_any _ (by omega) _ (by omega)]
        simp only [Option.bind_some]
        cases ho : okD (sg r).2 with
        | false => rw [if_neg Bool.false_ne_true, if_neg (by simp)]
        | true =>
          rw [if_pos rfl, if_pos ⟨hg, rfl⟩, rNorm_any _ _ (by omega) _ (by omega), ho, if_pos rfl]
          rfl
    have Jt : targumref6_tail.j0 (k + 1) (txt (x :: r)) false true = some ((⟨#[]⟩ : ByteArray), false) := by simp only [targumref6_tail.j0, if_true]
    unfold targumref6_tail.f
    rw [txt_toList, if_neg (by simp), bt_head, txt_size, if_pos (by omega)]
    show _ = some (match (if (x = 101 ∨ x = 69) ∧ (sg r).1 ≠ [] ∧ okD (sg r).2 = true then some (sv r) else none) with | some z => (num z, true) | none => ((⟨#[]⟩ : ByteArray), false))
    have fin : (x = 101 ∨ x = 69) → some (if (sg r).1 ≠ [] ∧ okD (sg r).2 = true then (num (sv r), true) else ((⟨#[]⟩ : ByteArray), false)) = some (match (if (x = 101 ∨ x = 69) ∧ (sg r).1 ≠ [] ∧ okD (sg r).2 = true then some (sv r) else none) with | some z => (num z, true) | none => ((⟨#[]⟩ : ByteArray), false)) := by
      intro hx
      by_cases h : (sg r).1 ≠ [] ∧ okD (sg r).2 = true
      · rw [if_pos h, if_pos ⟨hx, h⟩]
      · rw [if_neg h, if_neg (fun q => h q.2)]
    by_cases h1 : x = 101
    · rw [if_pos (show (x.toNat : Int) = 101 by rw [h1]; rfl), J]
      exact fin (.inl h1)
    · rw [if_neg (show ¬ (x.toNat : Int) = 101 from nez (n := 101) (by omega) h1)]
      by_cases h2 : x = 69
      · have hb : ((x.toNat : Int) != 69) = false := by rw [h2]; rfl
        rw [hb, J]
        exact fin (.inr h2)
      · have hb : ((x.toNat : Int) != 69) = true := bne_iff_ne.2 (nez (n := 69) (by omega) h2)
        rw [hb, Jt, if_neg (fun q => q.1.elim h1 h2)]
theorem isdig_eq (x : UInt8) : targumref4_IsDigit.f (x.toNat : Int) = some (isD x) := by
  unfold targumref4_IsDigit.f isD
  by_cases h48 : 48 ≤ x.toNat
  · rw [if_pos (by omega)]
    congr 1
    rw [Bool.eq_iff_iff, decide_eq_true_iff, decide_eq_true_iff]
    omega
  · rw [if_neg (by omega), decide_eq_false (by omega)]
theorem float_l0 (t : ByteArray) (neg : Bool) (K : Int) (L : List UInt8) (hL : L.length ≤ 1000000) (R : Option D6) (M n : Nat) (hn : n = (L.takeWhile isG).length) (hR : ∀ k, M ≤ k → targumref6_Float11.j1 k t neg K (txt L) (n : Int) = R) :
    ∀ (r a : List UInt8) (k : Nat), a ++ r = L → (∀ x ∈ a, isG x = true) → M + r.length + 1 ≤ k → targumref6_Float11.l0 k t neg K (txt L) (a.length : Int) = R
  | [], a, k, h, ha, hk => by
    obtain ⟨k, rfl⟩ : ∃ q, k = q + 1 := ⟨k - 1, by omega⟩
    rw [List.append_nil] at h
    subst h
    have e : a.takeWhile isG = a := by
      have := List.takeWhile_append_of_pos (p := isG) (l₁ := a) (l₂ := []) ha
      rw [List.append_nil] at this
      rw [this]; simp
    rw [e] at hn
    simp only [targumref6_Float11.l0]
    rw [txt_size, if_neg (by omega), ← hn]
    exact hR k (by simp at hk; omega)
  | x :: r, a, k, h, ha, hk => by
    obtain ⟨k, rfl⟩ : ∃ q, k = q + 1 := ⟨k - 1, by omega⟩
    have hl : L.length = a.length + (r.length + 1) := by rw [← h, List.length_append, List.length_cons]
    rw [List.length_cons] at hk
    have hb : bt (txt L) (a.length : Int) = (x.toNat : Int) := by rw [← h]; exact bt_mid a x r
    simp only [targumref6_Float11.l0]
    rw [txt_size, if_pos (by omega), if_pos (by omega), hb, isdig_eq, Option.bind_some, wrap_id (x := (a.length : Int) + 1) (by omega) (by omega)]
    have go : isG x = true → targumref6_Float11.l0 k t neg K (txt L) ((a.length : Int) + 1) = R := fun hx => by
      have := float_l0 t neg K L hL R M n hn hR r (a ++ [x]) k (by rw [← h]; simp) (fun y hy => by
        rcases List.mem_append.1 hy with q | q
        · exact ha y q
        · rw [List.mem_singleton.1 q]; exact hx) (by omega)
      rw [List.length_append, List.length_singleton] at this
      exact this
    cases hd : isD x with
    | true => rw [if_pos rfl]; exact go (by unfold isG; rw [hd]; rfl)
    | false =>
      rw [if_neg Bool.false_ne_true]
      by_cases h95 : x = 95
      · rw [if_pos (show (x.toNat : Int) = 95 by rw [h95]; rfl)]; exact go (by unfold isG; rw [beq_iff_eq.2 h95, Bool.or_true])
      · rw [if_neg (show ¬ (x.toNat : Int) = 95 from nez (n := 95) (by omega) h95)]
        have hx : isG x = false := by unfold isG; rw [hd, beq_eq_false_iff_ne.2 h95]; rfl
        have e : L.takeWhile isG = a := by
          rw [← h, List.takeWhile_append_of_pos ha, List.takeWhile_cons, hx, if_neg Bool.false_ne_true, List.append_nil]
        rw [e] at hn
        rw [← hn]
        exact hR k (by omega)
theorem tw_len' (p : UInt8 → Bool) (l : List UInt8) : (l.takeWhile p).length + (l.dropWhile p).length = l.length := by
  rw [← List.length_append, List.takeWhile_append_dropWhile]
theorem take_tw' (p : UInt8 → Bool) (l : List UInt8) : l.take (l.takeWhile p).length = l.takeWhile p := by
  have h := List.takeWhile_append_dropWhile (p := p) (l := l)
  generalize l.takeWhile p = a at *
  rw [← h]; exact List.take_left' rfl
theorem drop_tw' (p : UInt8 → Bool) (l : List UInt8) : l.drop (l.takeWhile p).length = l.dropWhile p := by
  have h := List.takeWhile_append_dropWhile (p := p) (l := l)
  generalize l.takeWhile p = a at *
  generalize l.dropWhile p = b at *
  rw [← h]; exact List.drop_left' rfl
theorem digV10 {x : UInt8} (h : isD x = true) : digV x < 10 := by
  have : 48 ≤ x.toNat ∧ x.toNat ≤ 57 := of_decide_eq_true h
  unfold digV
  rw [if_pos this]; omega
theorem row_ok (l : List UInt8) : okG 10 (l.takeWhile isG) = true := by
  unfold okG
  rw [List.all_eq_true]
  intro x hx
  have := List.all_eq_true.1 (List.all_takeWhile (p := isG) (l := l)) x hx
  unfold isG at this
  rcases Bool.or_eq_true _ _ ▸ this with q | q
  · rw [decide_eq_true (digV10 q), Bool.or_true]
  · rw [q]; rfl
/-- the digits behind the point -/
theorem row_bare (l : List UInt8) : bareR 10 (l.takeWhile isG) = (txt (sift (l.takeWhile isG)), decide (sift (l.takeWhile isG) ≠ [])) := by
  unfold bareR bareL
  by_cases h : sift (l.takeWhile isG) = []
  · rw [if_neg (fun q => q.2 h), h]; rfl
  · rw [if_pos ⟨row_ok l, h⟩, decide_eq_true h]
theorem row_digs (l : List UInt8) : Digs (sift (l.takeWhile isG)) := by
  intro x hx
  obtain ⟨h1, h2⟩ := List.mem_filter.1 hx
  have := List.all_eq_true.1 (List.all_takeWhile (p := isG) (l := l)) x h1
  unfold isG at this
  rcases Bool.or_eq_true _ _ ▸ this with q | q
  · exact (of_decide_eq_true q : 48 ≤ x.toNat ∧ x.toNat ≤ 57)
  · rw [beq_iff_eq.1 q] at h2; cases h2
end Go.Proofs.YtkijneohhilboaaGreatDoor.FloatSpec
