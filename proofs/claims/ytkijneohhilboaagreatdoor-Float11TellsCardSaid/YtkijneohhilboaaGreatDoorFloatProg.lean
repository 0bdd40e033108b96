/- Decimals of the old schema: what the program's read and Of tell: the reference's decimal. No conditions but sizes. -/
import Derived.Test.YtkijneohhilboaaGreatDoorFloatFacts
import Derived.Test.YtkijneohhilboaaGreatDoorPTx6
import Derived.Test.YtkijneohhilboaaGreatDoorPTx17
namespace Go.Proofs.YtkijneohhilboaaGreatDoor.FloatSpec
set_option linter.unusedSimpArgs false
set_option linter.unusedVariables false
open Go.RowKit Go.Lib Go.Proofs.YtkijneohhilboaaGreatDoor.Room Go.Proofs.YtkijneohhilboaaGreatDoor.PT Go.Proofs.YtkijneohhilboaaGreatDoorW.PrintWords Go.Proofs.YtkijneohhilboaaGreatDoor.Aid Go.Proofs.YtkijneohhilboaaGreatDoor.Num Go.Proofs.YtkijneohhilboaaGreatDoor.BigFns Go.Proofs.YtkijneohhilboaaGreatDoor.BigQ Go.Proofs.YtkijneohhilboaaGreatDoor.RefBig Go.Proofs.YtkijneohhilboaaGreatDoor.DecSpec Go.Proofs.YtkijneohhilboaaGreatDoor.NumSpec Go.Proofs.YtkijneohhilboaaGreatDoor.IntSpec Go.Proofs.YtkijneohhilboaaGreatDoor.FSix
abbrev F5 := Int × Bool × ByteArray × ByteArray × ByteArray
def zeroR : F5 := (0, false, ⟨#[]⟩, ⟨#[]⟩, ⟨#[]⟩)
/-- how many signs a colon and the digits behind it are -/
def sixN : List UInt8 → Nat
  | x :: a :: b :: _ => if x = 58 then (if (48 ≤ a.toNat ∧ a.toNat ≤ 53) ∧ isD b = true then 3 else if isD a = true then 2 else 0) else 0
  | x :: a :: [] => if x = 58 ∧ isD a = true then 2 else 0
  | _ => 0
theorem digit11_eq (x : UInt8) : float11_digit.f (x.toNat : Int) = some (isD x) := by
  unfold float11_digit.f isD
  by_cases h48 : 48 ≤ x.toNat
  · rw [if_pos (by omega)]
    congr 1
    rw [Bool.eq_iff_iff, decide_eq_true_iff, decide_eq_true_iff]
    omega
  · rw [if_neg (by omega), decide_eq_false (by omega)]
theorem bt_two (x y z : UInt8) (r : List UInt8) : bt (txt (x :: y :: z :: r)) 2 = (z.toNat : Int) := bt_mid [x, y] z r
theorem six_j0 (t : ByteArray) (k : Nat) : float11_sixty.j0 (k + 1) t true = some 3 := by simp only [float11_sixty.j0, if_true]
theorem six_j0n (x a : UInt8) (r : List UInt8) (k : Nat) : float11_sixty.j0 (k + 1) (txt (x :: a :: r)) false = some (if x = 58 ∧ isD a = true then 2 else 0) := by
  simp only [float11_sixty.j0, Bool.false_eq_true, if_false]
  rw [txt_size, if_pos (by simp only [List.length_cons]; omega), if_pos (by simp only [List.length_cons]; omega), bt_head, bt_one, digit11_eq]
  by_cases hx : x = 58
  · rw [if_pos (by rw [hx]; rfl), if_pos (by simp only [List.length_cons]; omega), Option.bind_some]
    cases isD a with
    | true => rw [if_pos rfl, if_pos ⟨hx, rfl⟩]
    | false => rw [if_neg Bool.false_ne_true, if_neg (fun q => Bool.false_ne_true q.2)]
  · rw [if_neg (show ¬ (x.toNat : Int) = 58 from nez (n := 58) (by omega) hx), if_neg (fun q => hx q.1)]
theorem sixty11_eq (l : List UInt8) (k : Nat) (hk : 2 ≤ k) : float11_sixty.f k (txt l) = some (sixN l : Int) := by
  obtain ⟨k, rfl⟩ : ∃ j, k = j + 1 := ⟨k - 1, by omega⟩
  unfold float11_sixty.f
  match l with
  | [] => rw [txt_size, if_neg (by simp)]; simp only [float11_sixty.j0, Bool.false_eq_true, if_false]; rw [txt_size, if_neg (by simp)]; rfl
  | [x] => rw [txt_size, if_neg (by simp)]; simp only [float11_sixty.j0, Bool.false_eq_true, if_false]; rw [txt_size, if_neg (by simp)]; rfl
  | [x, a] =>
    rw [txt_size, if_neg (by simp), six_j0n]
    show _ = some (((if x = 58 ∧ isD a = true then 2 else 0 : Nat)) : Int)
    split <;> rfl
  | x :: a :: b :: r =>
    rw [txt_size, if_pos (by simp only [List.length_cons]; omega), if_pos (by simp only [List.length_cons]; omega), bt_head, bt_one, bt_two, digit11_eq]
    show _ = some (((if x = 58 then (if (48 ≤ a.toNat ∧ a.toNat ≤ 53) ∧ isD b = true then 3 else if isD a = true then 2 else 0) else 0 : Nat)) : Int)
    by_cases hx : x = 58
    · rw [if_pos (by rw [hx]; rfl), if_pos hx, if_pos (by simp only [List.length_cons]; omega), Option.bind_some]
      have J : float11_sixty.j0 (k + 1) (txt (x :: a :: b :: r)) false = some (((if isD a = true then 2 else 0 : Nat)) : Int) := by
        rw [six_j0n]
        cases isD a with
        | true => rw [if_pos ⟨hx, rfl⟩]; rfl
        | false => rw [if_neg (fun q => Bool.false_ne_true q.2)]; rfl
      by_cases h1 : 48 ≤ a.toNat
      · rw [if_pos (by omega)]
        by_cases h2 : a.toNat ≤ 53
        · rw [if_pos (by omega), if_pos (by simp only [List.length_cons]; omega)]
          cases hb : isD b with
          | true => rw [six_j0, if_pos ⟨⟨h1, h2⟩, rfl⟩]; rfl
          | false => rw [if_neg (show ¬ ((48 ≤ a.toNat ∧ a.toNat ≤ 53) ∧ false = true) from fun q => Bool.false_ne_true q.2)]; exact J
        · rw [if_neg (show ¬ (a.toNat : Int) ≤ 53 by omega), if_neg (show ¬ ((48 ≤ a.toNat ∧ a.toNat ≤ 53) ∧ isD b = true) from fun q => h2 q.1.2)]; exact J
      · rw [if_neg (show ¬ (a.toNat : Int) ≥ 48 by omega), if_neg (show ¬ ((48 ≤ a.toNat ∧ a.toNat ≤ 53) ∧ isD b = true) from fun q => h1 q.1.1)]; exact J
    · rw [if_neg (show ¬ (x.toNat : Int) = 58 from nez (n := 58) (by omega) hx), if_neg hx, six_j0n, if_neg (fun q => hx q.1)]; rfl
theorem row11_l0 (L : List UInt8) (hL : L.length ≤ 1000000) : ∀ (r a : List UInt8) (k : Nat), a ++ r = L → r.length + 1 ≤ k → float11_row.l0 k (txt L) (a.length : Int) = some ((a.length + (r.takeWhile isG).length : Nat) : Int)
  | [], a, k, h, hk => by
    obtain ⟨k, rfl⟩ : ∃ q, k = q + 1 := ⟨k - 1, by omega⟩
    rw [List.append_nil] at h
    subst h
    simp only [float11_row.l0]
    rw [txt_size, if_neg (by omega)]
    rfl
  | x :: r, a, k, h, hk => by
    obtain ⟨k, rfl⟩ : ∃ q, k = q + 1 := ⟨k - 1, by omega⟩
    have hl : L.length = a.length + (r.length + 1) := by rw [← h, List.length_append, List.length_cons]
    rw [List.length_cons] at hk
    have hb : bt (txt L) (a.length : Int) = (x.toNat : Int) := by rw [← h]; exact bt_mid a x r
    simp only [float11_row.l0]
    rw [txt_size, if_pos (by omega), if_pos (by omega), hb, digit11_eq, Option.bind_some, wrap_id (x := (a.length : Int) + 1) (by omega) (by omega)]
    have go : isG x = true → float11_row.l0 k (txt L) ((a.length : Int) + 1) = some ((a.length + ((x :: r).takeWhile isG).length : Nat) : Int) := fun hx => by
      have := row11_l0 L hL r (a ++ [x]) k (by rw [← h]; simp) (by omega)
      rw [List.length_append, List.length_singleton] at this
      rw [List.takeWhile_cons, hx, if_pos rfl, List.length_cons]
      rw [show a.length + 1 + (r.takeWhile isG).length = a.length + ((r.takeWhile isG).length + 1) by omega] at this
      exact this
    by_cases h95 : x = 95
    · rw [if_pos (show (x.toNat : Int) = 95 by rw [h95]; rfl)]; exact go (by unfold isG; rw [beq_iff_eq.2 h95, Bool.or_true])
    · rw [if_neg (show ¬ (x.toNat : Int) = 95 from nez (n := 95) (by omega) h95)]
      cases hd : isD x with
      | true => rw [if_pos rfl]; exact go (by unfold isG; rw [hd]; rfl)
      | false =>
        have hx : isG x = false := by unfold isG; rw [hd, beq_eq_false_iff_ne.2 h95]; rfl
        rw [if_neg Bool.false_ne_true, List.takeWhile_cons, hx, if_neg Bool.false_ne_true]; rfl
theorem row11_eq (L : List UInt8) (hL : L.length ≤ 1000000) (k : Nat) (hk : L.length + 1 ≤ k) : float11_row.f k (txt L) = some ((L.takeWhile isG).length : Int) := by
  have := row11_l0 L hL L [] k rfl hk
  rw [List.length_nil, Nat.zero_add] at this
  exact this
theorem word11_eq (t : List UInt8) (s : Bool) (k : Nat) (hk : 3 ≤ k) : float11_word.f k (txt t) s = some (if infW t = true then 4 else if nanW t = true ∧ s = false then 5 else 0) := by
  obtain ⟨k, rfl⟩ : ∃ j, k = j + 2 := ⟨k - 2, by omega⟩
  unfold float11_word.f
  rw [txt_toList, three_beqs t _ _ _ (fun b => float11_word.j0 (k + 1 + 1) s (txt t) b)]
  show float11_word.j0 (k + 1 + 1) s (txt t) (infW t) = _
  simp only [float11_word.j0, txt_toList]
  rw [three_beqs t _ _ _ (fun b => float11_word.j1 (k + 1) s b)]
  show (if infW t = true then _ else float11_word.j1 (k + 1) s (nanW t)) = _
  simp only [float11_word.j1]
  cases infW t with
  | true => rfl
  | false =>
    cases nanW t with
    | true => cases s <;> rfl
    | false => rfl
theorem trim_nil (l : List UInt8) : Lib.trimS l [95] = [] ↔ sift l = [] := by
  have hs : sift l = [] ↔ ∀ x ∈ l, x = 95 := by
    unfold sift
    rw [List.filter_eq_nil_iff]
    constructor
    · intro h x hx
      have := h x hx
      rcases Decidable.em (x = 95) with q | q
      · exact q
      · exact absurd (bne_iff_ne.2 q) this
    · intro h x hx
      rw [h x hx]; decide
  have hc : ∀ x : UInt8, ([95] : List UInt8).contains x = true ↔ x = 95 := fun x => by
    rw [List.contains_iff_mem, List.mem_singleton]
  rw [hs]
  unfold Lib.trimS Lib.trimLeftS Lib.trimRightS
  have dw : ∀ (p : UInt8 → Bool) (m : List UInt8), m.dropWhile p = [] ↔ ∀ x ∈ m, p x = true := fun p m => by
    induction m with
    | nil => simp
    | cons a m ih =>
      rw [List.dropWhile_cons]
      cases ha : p a with
      | true => rw [if_pos rfl, ih]; simp [ha]
      | false => rw [if_neg Bool.false_ne_true]; simp [ha]
  rw [dw]
  have hl : l.reverse.takeWhile (([95] : List UInt8).contains ·) ++ l.reverse.dropWhile (([95] : List UInt8).contains ·) = l.reverse := List.takeWhile_append_dropWhile
  constructor
  · intro h x hx
    have : x ∈ l.reverse := List.mem_reverse.2 hx
    rw [← hl] at this
    rcases List.mem_append.1 this with q | q
    · exact (hc x).1 (List.all_eq_true.1 (List.all_takeWhile (p := (([95] : List UInt8).contains ·)) (l := l.reverse)) x q)
    · exact (hc x).1 (h x (List.mem_reverse.2 q))
  · intro h x hx
    have : x ∈ l.reverse := by rw [← hl]; exact List.mem_append.2 (.inr (List.mem_reverse.1 hx))
    exact (hc x).2 (h x (List.mem_reverse.1 this))
theorem Trim_eq (l : List UInt8) (hl : l.length ≤ 1000000) : strings_Trim.f (txt l) (⟨#[95]⟩ : ByteArray) = some (txt (Lib.trimS l [95])) := by
  unfold strings_Trim.f
  rw [if_pos ⟨by decide, by decide, by rw [txt_size]; omega⟩, show (txt l).data.toList = l from txt_list l]
  rfl
/-- behind a point: digits, a power -/
def endR (kind : Int) (neg : Bool) (w rest : List UInt8) : F5 := match expo11 (rest.dropWhile isG) with
  | none => zeroR
  | some z => if kind = 2 ∧ sift (rest.takeWhile isG) = [] then zeroR else if kind = 3 ∧ rest.dropWhile isG ≠ [] then zeroR else (kind, neg, txt w, txt (rest.takeWhile isG), num z)
def tailR (kind : Int) (neg : Bool) (W F : ByteArray) (s : List UInt8) : F5 := match expo11 s with
  | none => zeroR
  | some z => if kind = 3 ∧ s ≠ [] then zeroR else (kind, neg, W, F, num z)
theorem read_j3 (kind : Int) (neg : Bool) (W F E : ByteArray) (x y : UInt8) (d : List UInt8) (hd : d.length ≤ 1000) (k : Nat) (hk : 2000 ≤ k) :
    float11_read.j3 k (txt (x :: y :: d)) false kind neg W F E = some (if okD d = true then (kind, neg, W, F, num (if (y == 45) = true then -(val d : Int) else (val d : Int))) else zeroR) := by
  obtain ⟨k, rfl⟩ : ∃ j, k = j + 1 := ⟨k - 1, by omega⟩
  have hx : (txt (x :: y :: d)).extract 2 (txt (x :: y :: d)).size = txt d := by
    apply ext_list; rw [extract_end, txt_list, txt_list]; rfl
  have hy : ((y.toNat : Int) == 45) = (y == 45) := by
    by_cases h : y = 45
    · rw [h]; rfl
    · rw [show ((y.toNat : Int) == 45) = false from beq_eq_false_iff_ne.2 (nez (n := 45) (by omega) h), beq_eq_false_iff_ne.2 h]
  simp only [float11_read.j3, Bool.false_eq_true, if_false]
  rw [hx, txt_size, if_pos (by simp only [List.length_cons]; omega), if_pos (by simp only [List.length_cons]; omega), bt_one, hy, Norm_any _ d (by omega) k (by omega), Option.bind_some]
  cases okD d with
  | true => rw [if_pos rfl, if_neg (num_ne _), if_pos rfl]
  | false => rw [if_neg Bool.false_ne_true, nil_toList, if_pos rfl, if_neg Bool.false_ne_true]; rfl
theorem read_j3t (s : ByteArray) (kind : Int) (neg : Bool) (W F E : ByteArray) (k : Nat) : float11_read.j3 (k + 1) s true kind neg W F E = some zeroR := by
  simp only [float11_read.j3, if_true]; rfl
theorem read_j2 (kind : Int) (neg : Bool) (W F : ByteArray) (s : List UInt8) (hs : s.length ≤ 1000) (k : Nat) (hk : 2002 ≤ k) :
    float11_read.j2 k (txt s) false kind neg W F (⟨#[48]⟩ : ByteArray) = some (tailR kind neg W F s) := by
  obtain ⟨k, rfl⟩ : ∃ j, k = j + 2 := ⟨k - 2, by omega⟩
  simp only [float11_read.j2, Bool.false_eq_true, if_false]
  rw [txt_toList]
  have Jt := read_j3t (txt s) kind neg W F (⟨#[48]⟩ : ByteArray) k
  match s with
  | [] =>
    rw [if_pos rfl]
    show _ = some (if kind = 3 ∧ ([] : List UInt8) ≠ [] then zeroR else (kind, neg, W, F, num 0))
    rw [if_neg (fun q => q.2 rfl), show num 0 = (⟨#[48]⟩ : ByteArray) by rw [show (0 : Int) = ((0 : Nat) : Int) from rfl, num_nat, dec_zero]; rfl]
  | x :: r =>
    rw [if_neg (List.cons_ne_nil _ _)]
    have hsp : tailR kind neg W F (x :: r) = if (x = 101 ∨ x = 69) ∧ (sg r).1 ≠ [] ∧ okD (sg r).2 = true then (if kind = 3 then zeroR else (kind, neg, W, F, num (sv r))) else zeroR := by
      have he : expo11 (x :: r) = if (x = 101 ∨ x = 69) ∧ (sg r).1 ≠ [] ∧ okD (sg r).2 = true then some (sv r) else none := rfl
      unfold tailR
      rw [he]
      by_cases hc : (x = 101 ∨ x = 69) ∧ (sg r).1 ≠ [] ∧ okD (sg r).2 = true
      · rw [if_pos hc, if_pos hc]
        dsimp only
        by_cases k3 : kind = 3
        · rw [if_pos ⟨k3, List.cons_ne_nil _ _⟩, if_pos k3]
        · rw [if_neg (fun q => k3 q.1), if_neg k3]
      · rw [if_neg hc, if_neg hc]
    rw [hsp]
    by_cases k3 : kind = 3
    · rw [if_pos k3, Jt, if_pos k3]
      split <;> rfl
    · rw [if_neg k3, if_neg k3, txt_size]
      match r with
      | [] =>
        rw [if_pos (by simp), Jt, if_neg (fun q => q.2.1 rfl)]
      | [y] =>
        rw [if_pos (by simp), Jt, if_neg]
        rintro ⟨_, q1, q2⟩
        by_cases hy : y = 43 ∨ y = 45
        · rw [sg_sign hy] at q2; exact absurd (show okD [] = true from q2) (by decide)
        · have : sg [y] = ([], [y]) := by unfold sg; dsimp only; rw [if_neg hy]
          rw [this] at q1; exact q1 rfl
      | y :: c :: d =>
        have J7 := read_j3 kind neg W F (⟨#[48]⟩ : ByteArray) x y (c :: d) (by simp only [List.length_cons] at hs ⊢; omega) (k + 1) (by omega)
        have z1 : (1 : Int) < ((x :: y :: c :: d).length : Int) := by simp only [List.length_cons]; omega
        have z0 : (0 : Int) < ((x :: y :: c :: d).length : Int) := by omega
        have z3 : ¬ ((x :: y :: c :: d).length : Int) < 3 := by simp only [List.length_cons]; omega
        rw [if_neg z3, if_pos z0, bt_head, bt_one, if_pos z1]
        have yes : (y = 43 ∨ y = 45) → (some (if okD (c :: d) = true then (kind, neg, W, F, num (if (y == 45) = true then -(val (c :: d) : Int) else (val (c :: d) : Int))) else zeroR)) = some (if (sg (y :: c :: d)).1 ≠ [] ∧ okD (sg (y :: c :: d)).2 = true then (kind, neg, W, F, num (sv (y :: c :: d))) else zeroR) := fun hy => by
          unfold sv
          rw [sg_sign hy]
          have hq : ([y] == [45]) = (y == 45) := by
            by_cases hh : y = 45
            · rw [hh]; rfl
            · rw [beq_eq_false_iff_ne.2 hh]; exact beq_eq_false_iff_ne.2 (fun e => hh (List.cons.inj e).1)
          dsimp only
          rw [hq]
          cases okD (c :: d) with
          | true => rw [if_pos (show true = true from rfl), if_pos (show [y] ≠ [] ∧ true = true from ⟨List.cons_ne_nil _ _, rfl⟩)]
          | false => rw [if_neg Bool.false_ne_true, if_neg (fun q => Bool.false_ne_true q.2)]
        have sgn : (if (y.toNat : Int) = 43 then float11_read.j3 (k + 1) (txt (x :: y :: c :: d)) false kind neg W F (⟨#[48]⟩ : ByteArray) else float11_read.j3 (k + 1) (txt (x :: y :: c :: d)) ((y.toNat : Int) != 45) kind neg W F (⟨#[48]⟩ : ByteArray)) = some (if (sg (y :: c :: d)).1 ≠ [] ∧ okD (sg (y :: c :: d)).2 = true then (kind, neg, W, F, num (sv (y :: c :: d))) else zeroR) := by
          by_cases h43 : y = 43
          · rw [if_pos (by rw [h43]; rfl), J7]; exact yes (.inl h43)
          · rw [if_neg (show ¬ (y.toNat : Int) = 43 from nez (n := 43) (by omega) h43)]
            by_cases h45 : y = 45
            · rw [show ((y.toNat : Int) != 45) = false by rw [h45]; rfl, J7]; exact yes (.inr h45)
            · rw [show ((y.toNat : Int) != 45) = true from bne_iff_ne.2 (nez (n := 45) (by omega) h45), Jt, if_neg]
              rintro ⟨q1, _⟩
              have : sg (y :: c :: d) = ([], y :: c :: d) := by unfold sg; dsimp only; rw [if_neg (by rintro (e | e); exact h43 e; exact h45 e)]
              rw [this] at q1; exact q1 rfl
        by_cases h1 : x = 101
        · rw [if_pos (by rw [h1]; rfl), sgn]
          congr 1
          by_cases hq : (sg (y :: c :: d)).1 ≠ [] ∧ okD (sg (y :: c :: d)).2 = true
          · rw [if_pos hq, if_pos ⟨.inl h1, hq⟩]
          · rw [if_neg hq, if_neg (fun q => hq q.2)]
        · rw [if_neg (show ¬ (x.toNat : Int) = 101 from nez (n := 101) (by omega) h1)]
          by_cases h2 : x = 69
          · rw [if_pos (by rw [h2]; rfl), sgn]
            congr 1
            by_cases hq : (sg (y :: c :: d)).1 ≠ [] ∧ okD (sg (y :: c :: d)).2 = true
            · rw [if_pos hq, if_pos ⟨.inr h2, hq⟩]
            · rw [if_neg hq, if_neg (fun q => hq q.2)]
          · rw [if_neg (show ¬ (x.toNat : Int) = 69 from nez (n := 69) (by omega) h2), Jt, if_neg (fun q => q.1.elim h1 h2)]
theorem read_j2t (s : ByteArray) (kind : Int) (neg : Bool) (W F E : ByteArray) (k : Nat) : float11_read.j2 (k + 1) s true kind neg W F E = some zeroR := by
  simp only [float11_read.j2, if_true]; rfl
theorem read_j7 (kind : Int) (neg : Bool) (W F E : ByteArray) (x y : UInt8) (d : List UInt8) (hd : d.length ≤ 1000) (k : Nat) (hk : 2000 ≤ k) :
    float11_read.j7 k (txt (x :: y :: d)) false kind neg W F E = some (if okD d = true then (kind, neg, W, F, num (if (y == 45) = true then -(val d : Int) else (val d : Int))) else zeroR) := by
  obtain ⟨k, rfl⟩ : ∃ j, k = j + 1 := ⟨k - 1, by omega⟩
  have hx : (txt (x :: y :: d)).extract 2 (txt (x :: y :: d)).size = txt d := by
    apply ext_list; rw [extract_end, txt_list, txt_list]; rfl
  have hy : ((y.toNat : Int) == 45) = (y == 45) := by
    by_cases h : y = 45
    · rw [h]; rfl
    · rw [show ((y.toNat : Int) == 45) = false from beq_eq_false_iff_ne.2 (nez (n := 45) (by omega) h), beq_eq_false_iff_ne.2 h]
  simp only [float11_read.j7, Bool.false_eq_true, if_false]
  rw [hx, txt_size, if_pos (by simp only [List.length_cons]; omega), if_pos (by simp only [List.length_cons]; omega), bt_one, hy, Norm_any _ d (by omega) k (by omega), Option.bind_some]
  cases okD d with
  | true => rw [if_pos rfl, if_neg (num_ne _), if_pos rfl]
  | false => rw [if_neg Bool.false_ne_true, nil_toList, if_pos rfl, if_neg Bool.false_ne_true]; rfl
theorem read_j7t (s : ByteArray) (kind : Int) (neg : Bool) (W F E : ByteArray) (k : Nat) : float11_read.j7 (k + 1) s true kind neg W F E = some zeroR := by
  simp only [float11_read.j7, if_true]; rfl
theorem read_j6 (kind : Int) (neg : Bool) (W F : ByteArray) (s : List UInt8) (hs : s.length ≤ 1000) (k : Nat) (hk : 2002 ≤ k) :
    float11_read.j6 k (txt s) false kind neg W F (⟨#[48]⟩ : ByteArray) = some (tailR kind neg W F s) := by
  obtain ⟨k, rfl⟩ : ∃ j, k = j + 2 := ⟨k - 2, by omega⟩
  simp only [float11_read.j6, Bool.false_eq_true, if_false]
  rw [txt_toList]
  have Jt := read_j7t (txt s) kind neg W F (⟨#[48]⟩ : ByteArray) k
  match s with
  | [] =>
    rw [if_pos rfl]
    show _ = some (if kind = 3 ∧ ([] : List UInt8) ≠ [] then zeroR else (kind, neg, W, F, num 0))
    rw [if_neg (fun q => q.2 rfl), show num 0 = (⟨#[48]⟩ : ByteArray) by rw [show (0 : Int) = ((0 : Nat) : Int) from rfl, num_nat, dec_zero]; rfl]
  | x :: r =>
    rw [if_neg (List.cons_ne_nil _ _)]
    have hsp : tailR kind neg W F (x :: r) = if (x = 101 ∨ x = 69) ∧ (sg r).1 ≠ [] ∧ okD (sg r).2 = true then (if kind = 3 then zeroR else (kind, neg, W, F, num (sv r))) else zeroR := by
      have he : expo11 (x :: r) = if (x = 101 ∨ x = 69) ∧ (sg r).1 ≠ [] ∧ okD (sg r).2 = true then some (sv r) else none := rfl
      unfold tailR
      rw [he]
      by_cases hc : (x = 101 ∨ x = 69) ∧ (sg r).1 ≠ [] ∧ okD (sg r).2 = true
      · rw [if_pos hc, if_pos hc]
        dsimp only
        by_cases k3 : kind = 3
        · rw [if_pos ⟨k3, List.cons_ne_nil _ _⟩, if_pos k3]
        · rw [if_neg (fun q => k3 q.1), if_neg k3]
      · rw [if_neg hc, if_neg hc]
    rw [hsp]
    by_cases k3 : kind = 3
    · rw [if_pos k3, Jt, if_pos k3]
      split <;> rfl
    · rw [if_neg k3, if_neg k3, txt_size]
      match r with
      | [] =>
        rw [if_pos (by simp), Jt, if_neg (fun q => q.2.1 rfl)]
      | [y] =>
        rw [if_pos (by simp), Jt, if_neg]
        rintro ⟨_, q1, q2⟩
        by_cases hy : y = 43 ∨ y = 45
        · rw [sg_sign hy] at q2; exact absurd (show okD [] = true from q2) (by decide)
        · have : sg [y] = ([], [y]) := by unfold sg; dsimp only; rw [if_neg hy]
          rw [this] at q1; exact q1 rfl
      | y :: c :: d =>
        have J7 := read_j7 kind neg W F (⟨#[48]⟩ : ByteArray) x y (c :: d) (by simp only [List.length_cons] at hs ⊢; omega) (k + 1) (by omega)
        have z1 : (1 : Int) < ((x :: y :: c :: d).length : Int) := by simp only [List.length_cons]; omega
        have z0 : (0 : Int) < ((x :: y :: c :: d).length : Int) := by omega
        have z3 : ¬ ((x :: y :: c :: d).length : Int) < 3 := by simp only [List.length_cons]; omega
        rw [if_neg z3, if_pos z0, bt_head, bt_one, if_pos z1]
        have yes : (y = 43 ∨ y = 45) → (some (if okD (c :: d) = true then (kind, neg, W, F, num (if (y == 45) = true then -(val (c :: d) : Int) else (val (c :: d) : Int))) else zeroR)) = some (if (sg (y :: c :: d)).1 ≠ [] ∧ okD (sg (y :: c :: d)).2 = true then (kind, neg, W, F, num (sv (y :: c :: d))) else zeroR) := fun hy => by
          unfold sv
          rw [sg_sign hy]
          have hq : ([y] == [45]) = (y == 45) := by
            by_cases hh : y = 45
            · rw [hh]; rfl
            · rw [beq_eq_false_iff_ne.2 hh]; exact beq_eq_false_iff_ne.2 (fun e => hh (List.cons.inj e).1)
          dsimp only
          rw [hq]
          cases okD (c :: d) with
          | true => rw [if_pos (show true = true from rfl), if_pos (show [y] ≠ [] ∧ true = true from ⟨List.cons_ne_nil _ _, rfl⟩)]
          | false => rw [if_neg Bool.false_ne_true, if_neg (fun q => Bool.false_ne_true q.2)]
        have sgn : (if (y.toNat : Int) = 43 then float11_read.j7 (k + 1) (txt (x :: y :: c :: d)) false kind neg W F (⟨#[48]⟩ : ByteArray) else float11_read.j7 (k + 1) (txt (x :: y :: c :: d)) ((y.toNat : Int) != 45) kind neg W F (⟨#[48]⟩ : ByteArray)) = some (if (sg (y :: c :: d)).1 ≠ [] ∧ okD (sg (y :: c :: d)).2 = true then (kind, neg, W, F, num (sv (y :: c :: d))) else zeroR) := by
          by_cases h43 : y = 43
          · rw [if_pos (by rw [h43]; rfl), J7]; exact yes (.inl h43)
          · rw [if_neg (show ¬ (y.toNat : Int) = 43 from nez (n := 43) (by omega) h43)]
            by_cases h45 : y = 45
            · rw [show ((y.toNat : Int) != 45) = false by rw [h45]; rfl, J7]; exact yes (.inr h45)
            · rw [show ((y.toNat : Int) != 45) = true from bne_iff_ne.2 (nez (n := 45) (by omega) h45), Jt, if_neg]
              rintro ⟨q1, _⟩
              have : sg (y :: c :: d) = ([], y :: c :: d) := by unfold sg; dsimp only; rw [if_neg (by rintro (e | e); exact h43 e; exact h45 e)]
              rw [this] at q1; exact q1 rfl
        by_cases h1 : x = 101
        · rw [if_pos (by rw [h1]; rfl), sgn]
          congr 1
          by_cases hq : (sg (y :: c :: d)).1 ≠ [] ∧ okD (sg (y :: c :: d)).2 = true
          · rw [if_pos hq, if_pos ⟨.inl h1, hq⟩]
          · rw [if_neg hq, if_neg (fun q => hq q.2)]
        · rw [if_neg (show ¬ (x.toNat : Int) = 101 from nez (n := 101) (by omega) h1)]
          by_cases h2 : x = 69
          · rw [if_pos (by rw [h2]; rfl), sgn]
            congr 1
            by_cases hq : (sg (y :: c :: d)).1 ≠ [] ∧ okD (sg (y :: c :: d)).2 = true
            · rw [if_pos hq, if_pos ⟨.inr h2, hq⟩]
            · rw [if_neg hq, if_neg (fun q => hq q.2)]
          · rw [if_neg (show ¬ (x.toNat : Int) = 69 from nez (n := 69) (by omega) h2), Jt, if_neg (fun q => q.1.elim h1 h2)]
theorem read_j6t (s : ByteArray) (kind : Int) (neg : Bool) (W F E : ByteArray) (k : Nat) : float11_read.j6 (k + 1) s true kind neg W F E = some zeroR := by
  simp only [float11_read.j6, if_true]; rfl

theorem endR_tail (kind : Int) (neg : Bool) (w rest : List UInt8) : endR kind neg w rest = if kind = 2 ∧ sift (rest.takeWhile isG) = [] then zeroR else tailR kind neg (txt w) (txt (rest.takeWhile isG)) (rest.dropWhile isG) := by
  unfold endR tailR
  cases expo11 (rest.dropWhile isG) with
  | none =>
    show zeroR = if kind = 2 ∧ sift (rest.takeWhile isG) = [] then zeroR else zeroR
    rw [ite_self]
  | some z => rfl
theorem trim_beq (l : List UInt8) : ((txt (Lib.trimS l [95])).toList == ([] : List UInt8)) = decide (sift l = []) := by
  rw [txt_toList]
  by_cases h : sift l = []
  · rw [(trim_nil l).2 h, decide_eq_true h]; rfl
  · rw [decide_eq_false h]
    exact beq_eq_false_iff_ne.2 (fun q => h ((trim_nil l).1 q))
theorem cut_rest (w rest : List UInt8) : (txt (w ++ 46 :: rest)).extract 0 w.length = txt w ∧ (txt (w ++ 46 :: rest)).extract (w.length + 1) (txt (w ++ 46 :: rest)).size = txt rest ∧
    (txt rest).extract 0 (rest.takeWhile isG).length = txt (rest.takeWhile isG) ∧ (txt rest).extract (rest.takeWhile isG).length (txt rest).size = txt (rest.dropWhile isG) := by
  refine ⟨?_, ?_, ?_, ?_⟩
  · apply ext_list; rw [extract_take, txt_list, txt_list]; exact List.take_left' rfl
  · apply ext_list; rw [extract_end, txt_list, txt_list]
    rw [show w ++ 46 :: rest = (w ++ [46]) ++ rest by simp, show w.length + 1 = (w ++ [46]).length by simp]
    exact List.drop_left' rfl
  · apply ext_list; rw [extract_take, txt_list, txt_list, take_tw']
  · apply ext_list; rw [extract_end, txt_list, txt_list, drop_tw']
theorem read_j5 (kind : Int) (neg : Bool) (w rest : List UInt8) (hl : w.length + rest.length ≤ 900) (k : Nat) (hk : 2010 ≤ k) :
    float11_read.j5 k (txt (w ++ 46 :: rest)) (w.length : Int) false kind neg (⟨#[]⟩ : ByteArray) (⟨#[]⟩ : ByteArray) (⟨#[48]⟩ : ByteArray) = some (endR kind neg w rest) := by
  obtain ⟨k, rfl⟩ : ∃ j, k = j + 2 := ⟨k - 2, by omega⟩
  obtain ⟨c1, c2, c3, c4⟩ := cut_rest w rest
  have hn := tw_len' isG rest
  have T := Trim_eq (rest.takeWhile isG) (by omega)
  have B := trim_beq (rest.takeWhile isG)
  have J := read_j6 kind neg (txt w) (txt (rest.takeWhile isG)) (rest.dropWhile isG) (by omega) (k + 1) (by omega)
  have Jt := read_j6t (txt (rest.dropWhile isG)) kind neg (txt w) (txt (rest.takeWhile isG)) (⟨#[48]⟩ : ByteArray) k
  have R := row11_eq rest (by omega) (k + 1) (by omega)
  have z : (w ++ 46 :: rest).length = w.length + 1 + rest.length := by rw [List.length_append, List.length_cons]; omega
  simp only [float11_read.j5, Bool.false_eq_true, if_false]
  rw [wrap_id (x := (w.length : Int) + 1) (by omega) (by omega), show ((w.length : Int) + 1).toNat = w.length + 1 by omega, Int.toNat_natCast, c1, c2, R, txt_size, if_pos (by omega), if_pos (by omega), if_pos (by omega), if_pos (by omega), Option.bind_some, Int.toNat_natCast, c3, c4, T, Option.bind_some, B, txt_size, if_pos (by omega), if_pos (by omega), endR_tail]
  by_cases k2 : kind = 2
  · rw [if_pos k2]
    by_cases hs : sift (rest.takeWhile isG) = []
    · rw [decide_eq_true hs, Jt, if_pos ⟨k2, hs⟩]
    · rw [decide_eq_false hs, J, if_neg (fun q => hs q.2)]
  · rw [if_neg k2, J, if_neg (fun q => k2 q.1)]
theorem read_j5t (s : ByteArray) (n kind : Int) (neg : Bool) (W F E : ByteArray) (k : Nat) : float11_read.j5 (k + 1) s n true kind neg W F E = some zeroR := by
  simp only [float11_read.j5, if_true]; rfl
/-- where the parts of sixty end: at a point, or there is none -/
def finR (neg : Bool) (pre y : List UInt8) (kind : Int) : F5 := match y with
  | 46 :: rest => endR kind neg pre rest
  | _ => zeroR
theorem sixN_ne {x : UInt8} (h : x ≠ 58) (r : List UInt8) : sixN (x :: r) = 0 := by
  match r with
  | [] => rfl
  | [a] => exact if_neg (fun q => h q.1)
  | a :: b :: r => exact if_neg h
theorem isD_iff (c : UInt8) : isD c = true ↔ 48 ≤ c.toNat ∧ c.toNat ≤ 57 := decide_eq_true_iff
theorem isD_no {c : UInt8} (h : c = 58 ∨ c = 46) : isD c = false := by rcases h with rfl | rfl <;> decide
theorem okPart_isD (p : List UInt8) : okPart p = true ↔ (∃ a, p = [a] ∧ isD a = true) ∨ ∃ a b, p = [a, b] ∧ (48 ≤ a.toNat ∧ a.toNat ≤ 53) ∧ isD b = true := by
  constructor
  · intro h
    have hd := okPart_digs h
    have hl := okPart_len h
    match p with
    | [] => exact absurd rfl hd.2
    | [a] => exact .inl ⟨a, rfl, decide_eq_true (hd.1 a (by simp))⟩
    | [a, b] =>
      refine .inr ⟨a, b, rfl, ⟨(hd.1 a (by simp)).1, ?_⟩, decide_eq_true (hd.1 b (by simp))⟩
      unfold okPart at h
      rw [Bool.and_eq_true] at h
      simpa using h.2
    | a :: b :: c :: r => simp at hl
  · rintro (⟨a, rfl, ha⟩ | ⟨a, b, rfl, ha, hb⟩)
    · unfold okPart
      rw [(okD_iff [a]).2 ⟨fun x hx => by rw [List.mem_singleton.1 hx]; exact (isD_iff a).1 ha, by simp⟩]; rfl
    · unfold okPart
      rw [(okD_iff [a, b]).2 ⟨fun x hx => by
        rcases List.mem_cons.1 hx with e | e
        · rw [e]; exact ⟨ha.1, by omega⟩
        · rw [List.mem_singleton.1 e]; exact (isD_iff b).1 hb, by simp⟩]
      simp [ha.2]
/-- a part that may be is passed; one that may not stops ahead of a sign that is neither a point nor a colon, or at its own colon -/
theorem sixN_part (p y : List UInt8) (h58 : 58 ∉ p) (h46 : 46 ∉ p) (hy : y = [] ∨ ∃ c q, y = c :: q ∧ (c = 58 ∨ c = 46)) :
    (okPart p = true → sixN (58 :: (p ++ y)) = p.length + 1) ∧ (okPart p = false → sixN (58 :: (p ++ y)) = 0 ∨ ∃ g x q, p = g ++ x :: q ∧ sixN (58 :: (p ++ y)) = g.length + 1) := by
  have hyn : ∀ c q, y = c :: q → isD c = false := fun c q e => by
    rcases hy with h | ⟨c', q', h, hc⟩
    · rw [h] at e; cases e
    · rw [h] at e; rw [← (List.cons.inj e).1]; exact isD_no hc
  match p with
  | [] =>
    refine ⟨fun h => absurd h (by decide), fun _ => .inl ?_⟩
    match y with
    | [] => rfl
    | [c] => exact if_neg (fun q => by rw [hyn c [] rfl] at q; exact Bool.false_ne_true q.2)
    | c :: b :: q =>
      have hc := hyn c _ rfl
      show (if (58 : UInt8) = 58 then (if (48 ≤ c.toNat ∧ c.toNat ≤ 53) ∧ isD b = true then 3 else if isD c = true then 2 else 0) else 0) = 0
      rw [if_pos rfl, if_neg (fun q => by have := (isD_iff c).2 ⟨q.1.1, by omega⟩; rw [hc] at this; cases this), hc]; rfl
  | [a] =>
    have e : sixN (58 :: ([a] ++ y)) = if isD a = true then 2 else 0 := by
      match y with
      | [] =>
        show (if (58 : UInt8) = 58 ∧ isD a = true then 2 else 0) = _
        cases isD a <;> simp
      | c :: q =>
        show (if (58 : UInt8) = 58 then (if (48 ≤ a.toNat ∧ a.toNat ≤ 53) ∧ isD c = true then 3 else if isD a = true then 2 else 0) else 0) = _
        rw [if_pos rfl, if_neg (fun z => by rw [hyn c q rfl] at z; exact Bool.false_ne_true z.2)]
    rw [e]
    refine ⟨fun h => ?_, fun h => .inl ?_⟩
    · rcases (okPart_isD [a]).1 h with ⟨b, hb, hd⟩ | ⟨b, c, hb, _⟩
      · obtain rfl := (List.cons.inj hb).1
        rw [if_pos hd]; rfl
      · simp at hb
    · cases hd : isD a with
      | true => rw [(okPart_isD [a]).2 (.inl ⟨a, rfl, hd⟩)] at h; cases h
      | false => rfl
  | a :: b :: r =>
    have e : sixN (58 :: (a :: b :: r ++ y)) = if (48 ≤ a.toNat ∧ a.toNat ≤ 53) ∧ isD b = true then 3 else if isD a = true then 2 else 0 := by
      show (if (58 : UInt8) = 58 then (if (48 ≤ a.toNat ∧ a.toNat ≤ 53) ∧ isD b = true then 3 else if isD a = true then 2 else 0) else 0) = _
      rw [if_pos rfl]
    rw [e]
    refine ⟨fun h => ?_, fun h => ?_⟩
    · rcases (okPart_isD _).1 h with ⟨c, hb, hd⟩ | ⟨c, d, hb, hc⟩
      · simp at hb
      · have ea := (List.cons.inj hb).1
        have hb2 := (List.cons.inj hb).2
        have eb := (List.cons.inj hb2).1
        have er := (List.cons.inj hb2).2
        rw [← ea, ← eb] at hc
        rw [if_pos hc, er]; rfl
    · by_cases hc : (48 ≤ a.toNat ∧ a.toNat ≤ 53) ∧ isD b = true
      · rw [if_pos hc]
        match r with
        | [] => rw [(okPart_isD [a, b]).2 (.inr ⟨a, b, rfl, hc⟩)] at h; cases h
        | c :: q => exact .inr ⟨[a, b], c, q, rfl, rfl⟩
      · rw [if_neg hc]
        cases hd : isD a with
        | true => exact .inr ⟨[a], b, r, rfl, rfl⟩
        | false => exact .inl rfl
theorem read_l0 (neg : Bool) (T : List UInt8) (hT : T.length ≤ 800) : ∀ (m : Nat) (v y pre : List UInt8) (kind : Int) (k : Nat), v.length ≤ m → 46 ∉ v → (y = [] ∨ ∃ rest, y = 46 :: rest) → pre ++ (v ++ y) = T → 2022 + 2 * m ≤ k →
    float11_read.l0 k (txt T) (pre.length : Int) kind neg (⟨#[]⟩ : ByteArray) (⟨#[]⟩ : ByteArray) (⟨#[48]⟩ : ByteArray) = some (match v with | [] => finR neg pre y kind | x :: v' => if x = 58 ∧ (cols v').all okPart = true then finR neg (pre ++ v) y 3 else zeroR) := by
  have step : ∀ (r pre : List UInt8) (kind : Int) (k : Nat), pre ++ r = T → 2020 ≤ k → float11_read.l0 (k + 1) (txt T) (pre.length : Int) kind neg (⟨#[]⟩ : ByteArray) (⟨#[]⟩ : ByteArray) (⟨#[48]⟩ : ByteArray) =
      if sixN r > 0 then float11_read.l0 k (txt T) ((pre.length + sixN r : Nat) : Int) 3 neg (⟨#[]⟩ : ByteArray) (⟨#[]⟩ : ByteArray) (⟨#[48]⟩ : ByteArray) else some (finR neg pre r kind) := fun r pre kind k h hk => by
    have hl : T.length = pre.length + r.length := by rw [← h, List.length_append]
    have hx : (txt T).extract pre.length (txt T).size = txt r := by
      apply ext_list; rw [extract_end, txt_list, txt_list, ← h]; exact List.drop_left' rfl
    have h3 : sixN r ≤ 3 := by
      unfold sixN
      split
      · split
        · split
          · exact Nat.le_refl _
          · split <;> omega
        · omega
      · split <;> omega
      · omega
    obtain ⟨k', rfl⟩ : ∃ j, k = j + 1 := ⟨k - 1, by omega⟩
    simp only [float11_read.l0]
    rw [Int.toNat_natCast, hx, sixty11_eq r _ (by omega), Option.bind_some, txt_size, if_pos (by omega), if_pos (by omega)]
    by_cases h0 : sixN r > 0
    · rw [if_pos (by omega), if_pos h0, wrap_id (by omega) (by omega)]; rfl
    · rw [if_neg (by omega), if_neg h0]
      match r with
      | [] =>
        have hl0 : T.length = pre.length := by rw [← h, List.append_nil]
        rw [if_pos (by omega), read_j5t]; rfl
      | x :: r =>
        rw [List.length_cons] at hl
        have hb : bt (txt T) (pre.length : Int) = (x.toNat : Int) := by rw [← h]; exact bt_mid pre x r
        rw [if_neg (by omega), if_pos (by omega), hb]
        by_cases h46 : x = 46
        · subst h46
          rw [show (((46 : UInt8).toNat : Int) != 46) = false from rfl, ← h, read_j5 kind neg pre r (by omega) _ (by omega)]
          rfl
        · rw [show ((x.toNat : Int) != 46) = true from bne_iff_ne.2 (nez (n := 46) (by omega) h46), read_j5t]
          congr 1
          unfold finR
          split
          · rename_i e; exact absurd (List.cons.inj e).1 h46
          · rfl
  have no : ∀ (x : UInt8) (r pre : List UInt8) (kind : Int) (k : Nat), x ≠ 58 → x ≠ 46 → pre ++ x :: r = T → 2021 ≤ k → float11_read.l0 k (txt T) (pre.length : Int) kind neg (⟨#[]⟩ : ByteArray) (⟨#[]⟩ : ByteArray) (⟨#[48]⟩ : ByteArray) = some zeroR := fun x r pre kind k h1 h2 h hk => by
    obtain ⟨k, rfl⟩ : ∃ j, k = j + 1 := ⟨k - 1, by omega⟩
    rw [step (x :: r) pre kind k h (by omega), sixN_ne h1, if_neg (by omega)]
    congr 1
    unfold finR
    split
    · rename_i e; exact absurd (List.cons.inj e).1 h2
    · rfl
  intro m
  induction m with
  | zero =>
    intro v y pre kind k hm h46 hy h hk
    obtain rfl := List.length_eq_zero_iff.1 (Nat.le_zero.1 hm)
    obtain ⟨k, rfl⟩ : ∃ j, k = j + 1 := ⟨k - 1, by omega⟩
    rw [step y pre kind k h (by omega), if_neg]
    rcases hy with rfl | ⟨rest, rfl⟩
    · exact Nat.lt_irrefl 0
    · rw [sixN_ne (by decide)]; exact Nat.lt_irrefl 0
  | succ m ih =>
    intro v y pre kind k hm h46 hy h hk
    match v with
    | [] => exact ih [] y pre kind k (Nat.zero_le _) h46 hy h (by omega)
    | x :: v' =>
      rw [List.length_cons] at hm
      dsimp only
      by_cases hx : x = 58
      · subst hx
        have hv46 : 46 ∉ v' := fun q => h46 (by simp [q])
        obtain ⟨p, z, e, hp58, hz⟩ : ∃ p z, v' = p ++ z ∧ 58 ∉ p ∧ ((z = [] ∧ cols v' = [p]) ∨ ∃ q, z = 58 :: q ∧ cols v' = p :: cols q) := by
          rcases span58 v' with ⟨h1, h2⟩ | ⟨p, r, e, hp, hc, _⟩
          · exact ⟨v', [], by simp, h1, .inl ⟨rfl, h2⟩⟩
          · exact ⟨p, 58 :: r, e, hp, .inr ⟨r, rfl, hc⟩⟩
        have hp46 : 46 ∉ p := fun q => hv46 (by rw [e]; simp [q])
        have hzy : z ++ y = [] ∨ ∃ c q, z ++ y = c :: q ∧ (c = 58 ∨ c = 46) := by
          rcases hz with ⟨rfl, _⟩ | ⟨q, rfl, _⟩
          · rcases hy with rfl | ⟨rest, rfl⟩
            · exact .inl rfl
            · exact .inr ⟨46, rest, rfl, .inr rfl⟩
          · exact .inr ⟨58, q ++ y, rfl, .inl rfl⟩
        obtain ⟨s1, s2⟩ := sixN_part p (z ++ y) hp58 hp46 hzy
        have hT' : pre ++ (58 :: (p ++ (z ++ y))) = T := by rw [← h, e]; simp
        obtain ⟨k, rfl⟩ : ∃ j, k = j + 1 := ⟨k - 1, by omega⟩
        rw [step _ pre kind k hT' (by omega)]
        cases hok : okPart p with
        | true =>
          rw [s1 hok, if_pos (by omega)]
          have hpre : pre.length + (p.length + 1) = (pre ++ 58 :: p).length := by simp
          rw [hpre]
          have hzl : z.length ≤ m := by have : v'.length = p.length + z.length := by rw [e, List.length_append]
                                        omega
          have := ih z y (pre ++ 58 :: p) 3 k hzl (fun q => hv46 (by rw [e]; simp [q])) hy (by rw [← hT']; simp) (by omega)
          rw [this]
          congr 1
          rcases hz with ⟨rfl, hc⟩ | ⟨q, rfl, hc⟩
          · rw [hc, if_pos ⟨rfl, by simp [hok]⟩, e]
            dsimp only
            rw [List.append_nil]
          · dsimp only
            rw [hc, List.all_cons, hok, Bool.true_and]
            by_cases ha : (cols q).all okPart = true
            · rw [if_pos ⟨rfl, ha⟩, if_pos ⟨rfl, ha⟩, e]; simp
            · rw [if_neg (fun z => ha z.2), if_neg (fun z => ha z.2)]
        | false =>
          have hall : ¬ ((58 : UInt8) = 58 ∧ (cols v').all okPart = true) := by
            rintro ⟨_, q⟩
            rcases hz with ⟨_, hc⟩ | ⟨q', _, hc⟩
            · rw [hc] at q; simp [hok] at q
            · rw [hc, List.all_cons, hok] at q; simp at q
          rw [if_neg hall]
          rcases s2 hok with s0 | ⟨g, x, q, hg, s3⟩
          · rw [s0, if_neg (by omega)]; rfl
          · rw [s3, if_pos (by omega)]
            have hpre : pre.length + (g.length + 1) = (pre ++ 58 :: g).length := by simp
            rw [hpre]
            exact no x (q ++ (z ++ y)) (pre ++ 58 :: g) 3 k (fun q' => hp58 (by rw [hg]; simp [q'])) (fun q' => hp46 (by rw [hg]; simp [q'])) (by rw [← hT', hg]; simp) (by omega)
      · rw [if_neg (fun q => hx q.1)]
        exact no x (v' ++ y) pre kind k hx (fun q => h46 (by simp [q])) h (by omega)
end Go.Proofs.YtkijneohhilboaaGreatDoor.FloatSpec
