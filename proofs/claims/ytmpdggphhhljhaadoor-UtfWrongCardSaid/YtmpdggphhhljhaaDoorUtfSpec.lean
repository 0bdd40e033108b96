/- What the functions of layer 1 and of its reference compute: units, scalars, encodings. No conditions but sizes. -/
import Derived.Test.YtmpdggphhhljhaaDoorAid
import Derived.Test.YtmpdggphhhljhaaDoorBrkFns
import Derived.Test.YtmpdggphhhljhaaDoorXW
import Derived.Test.YtmpdggphhhljhaaDoorPCx3
import Derived.Test.YtmpdggphhhljhaaDoorPCx4
import Derived.Test.YtmpdggphhhljhaaDoorPCx5
namespace Go.Proofs.YtmpdggphhhljhaaDoor.UtfSpec
set_option linter.unusedSimpArgs false
set_option linter.unusedVariables false
open Go.RowKit Go.Proofs.YtmpdggphhhljhaaDoor.PC Go.Proofs.YtmpdggphhhljhaaDoorW.PrintWords Go.Proofs.YtmpdggphhhljhaaDoor.Aid Go.Proofs.YtmpdggphhhljhaaDoor.BrkFns
theorem some_round {k n : Nat} (h : n + 1 ≤ k) : ∃ j, k = j + 1 ∧ n ≤ j := ⟨k - 1, by omega, by omega⟩
def isB (l : List Int) : Prop := ∀ x ∈ l, 0 ≤ x ∧ x ≤ 255
theorem isB.drop {l : List Int} (h : isB l) (n : Nat) : isB (l.drop n) := fun x hx => h x (List.mem_of_mem_drop hx)
theorem isB.tail {a : Int} {l : List Int} (h : isB (a :: l)) : isB l := fun x hx => h x (List.mem_cons_of_mem _ hx)
theorem isB.head {a : Int} {l : List Int} (h : isB (a :: l)) : 0 ≤ a ∧ a ≤ 255 := h a List.mem_cons_self
theorem or_add (a b : Int) (h0 : 0 ≤ a) (h1 : a < 16777216) (hb0 : 0 ≤ b) (hb : b ≤ 255) : Go.bits .or .i64 (wrap64 (a * 256)) (wrap64 b) = a * 256 + b := by
  rw [wrap_id (x := a * 256) (by omega) (by omega), wrap_id (x := b) (by omega) (by omega)]
  obtain ⟨m, rfl⟩ := Int.eq_ofNat_of_zero_le h0
  obtain ⟨n, rfl⟩ := Int.eq_ofNat_of_zero_le hb0
  unfold Go.bits
  have e1 : (BitVec.ofInt IntKind.i64.bits ((m : Int) * 256)).toNat = m * 256 := by
    rw [BitVec.toNat_ofInt]
    show ((m : Int) * 256 % ((2 ^ 64 : Nat) : Int)).toNat = _
    omega
  have e2 : (BitVec.ofInt IntKind.i64.bits (n : Int)).toNat = n := by
    rw [BitVec.toNat_ofInt]
    show ((n : Int) % ((2 ^ 64 : Nat) : Int)).toNat = _
    omega
  show IntKind.i64.wrap ((BitVec.ofInt IntKind.i64.bits ((m : Int) * 256) ||| BitVec.ofInt IntKind.i64.bits (n : Int)).toNat : Int) = _
  rw [BitVec.toNat_or, e1, e2]
  have := Nat.shiftLeft_add_eq_or_of_lt (i := 8) (b := n) (by omega) m
  rw [Nat.shiftLeft_eq] at this
  rw [show m * 256 = m * 2 ^ 8 from rfl, ← this]
  obtain ⟨z, hz⟩ : ∃ z, m * 2 ^ 8 + n = z := ⟨_, rfl⟩
  rw [hz, IntKind.wrap_i64]
  have hw := wrap_id (x := (z : Int)) (by omega) (by omega)
  unfold wrap64 at hw
  rw [hw]; omega
/-! ### widths and orders -/
def wid (e : Int) : Int := if e = 4 ∨ e = 5 then 4 else if e = 2 ∨ e = 3 then 2 else if e = 1 then 1 else 0
def lit (e : Int) : Bool := decide (e = 3 ∨ e = 5)
theorem width_eq (k : Nat) (hk : 3 ≤ k) (e : Int) : utf_width.f k e = some (wid e) := by
  by_cases h4 : e = 4
  · subst h4; exact at_rounds (utf_width.mono 4) hk (by decide +kernel)
  by_cases h5 : e = 5
  · subst h5; exact at_rounds (utf_width.mono 5) hk (by decide +kernel)
  by_cases h2 : e = 2
  · subst h2; exact at_rounds (utf_width.mono 2) hk (by decide +kernel)
  by_cases h3 : e = 3
  · subst h3; exact at_rounds (utf_width.mono 3) hk (by decide +kernel)
  by_cases h1 : e = 1
  · subst h1; exact at_rounds (utf_width.mono 1) hk (by decide +kernel)
  obtain ⟨k, rfl⟩ : ∃ j, k = j + 2 := ⟨k - 2, by omega⟩
  unfold utf_width.f wid
  rw [if_neg h4, beq_eq_false_iff_ne.2 h5, if_neg (by omega)]
  simp only [utf_width.j0, Bool.false_eq_true, if_false]
  rw [if_neg h2, beq_eq_false_iff_ne.2 h3, if_neg (by omega)]
  simp only [utf_width.j1, Bool.false_eq_true, if_false]
  rw [if_neg h1, if_neg h1]
theorem turned_eq (e : Int) : utf_turned.f e = some (lit e) := by
  unfold utf_turned.f lit
  by_cases h3 : e = 3
  · subst h3; rfl
  · rw [if_neg h3]
    by_cases h5 : e = 5
    · subst h5; rfl
    · rw [beq_eq_false_iff_ne.2 h5, decide_eq_false (by omega)]
/-! ### units -/
def u2 (t : Bool) (a b : Int) : Int := if t = true then b * 256 + a else a * 256 + b
def u4 (t : Bool) (a b c d : Int) : Int := if t = true then ((d * 256 + c) * 256 + b) * 256 + a else ((a * 256 + b) * 256 + c) * 256 + d
theorem rd0 (a : Int) (l : List Int) : rd (a :: l) 0 = a := rfl
theorem rd1 (a b : Int) (l : List Int) : rd (a :: b :: l) 1 = b := rfl
theorem rd2 (a b c : Int) (l : List Int) : rd (a :: b :: c :: l) 2 = c := rfl
theorem rd3 (a b c d : Int) (l : List Int) : rd (a :: b :: c :: d :: l) 3 = d := rfl
theorem unit_end (k : Nat) (e : Int) (l : List Int) (w u n : Int) : utf_unit.l0 (k + 1) e l w u n n = some u := by
  simp only [utf_unit.l0]
  rw [if_neg (by omega)]
theorem unit_step (k : Nat) (e : Int) (l : List Int) (w u : Int) (i : Int) (hi : 0 ≤ i) (hiw : i < w) (hw : w ≤ 4) (hl : w ≤ l.length) (hu : 0 ≤ u ∧ u < 16777216) (x : Int) (hx : rd l (if lit e = true then w - 1 - i else i) = x) (hxb : 0 ≤ x ∧ x ≤ 255) :
    utf_unit.l0 (k + 1) e l w u w i = utf_unit.l0 k e l w (u * 256 + x) w (i + 1) := by
  simp only [utf_unit.l0]
  rw [if_pos (by omega), turned_eq, Option.bind_some]
  have e1 : wrap64 (wrap64 (w - 1) - i) = w - 1 - i := by rw [wrap_id (x := w - 1) (by omega) (by omega), wrap_id (by omega) (by omega)]
  have e2 : wrap64 (i + 1) = i + 1 := wrap_id (by omega) (by omega)
  rw [e1, e2]
  cases hle : lit e with
  | true =>
    rw [if_pos rfl, if_pos (by omega), if_pos (by omega)]
    rw [hle, if_pos rfl] at hx
    rw [hx, or_add u x hu.1 hu.2 hxb.1 hxb.2]
  | false =>
    rw [if_neg Bool.false_ne_true, if_pos (by omega), if_pos (by omega)]
    rw [hle, if_neg Bool.false_ne_true] at hx
    rw [hx, or_add u x hu.1 hu.2 hxb.1 hxb.2]
theorem unit_few (k : Nat) (hk : 3 ≤ k) (e : Int) (l : List Int) (h : (l.length : Int) < wid e) : utf_unit.f k e l = some (-1) := by
  unfold utf_unit.f
  rw [width_eq k hk, Option.bind_some, if_pos h]
theorem unit2 (k : Nat) (hk : 6 ≤ k) (e : Int) (he : e = 2 ∨ e = 3) (a b : Int) (l : List Int) (h : isB (a :: b :: l)) : utf_unit.f k e (a :: b :: l) = some (u2 (lit e) a b) := by
  have hw : wid e = 2 := by rcases he with rfl | rfl <;> rfl
  have ha := h.head; have hb := h.tail.head
  unfold utf_unit.f
  rw [width_eq k (by omega), Option.bind_some, hw, if_neg (by simp only [List.length_cons]; omega)]
  obtain ⟨k, rfl⟩ : ∃ j, k = j + 3 := ⟨k - 3, by omega⟩
  have hl : (2 : Int) ≤ ((a :: b :: l).length : Int) := by simp only [List.length_cons]; omega
  unfold u2
  cases ht : lit e with
  | true =>
    rw [if_pos rfl, unit_step (k + 2) e _ 2 0 0 (by omega) (by omega) (by omega) hl (by omega) b (by rw [ht]; rfl) hb, unit_step (k + 1) e _ 2 _ _ (by omega) (by omega) (by omega) hl (by omega) a (by rw [ht]; rfl) ha, show (0 : Int) + 1 + 1 = 2 from rfl, unit_end]
    congr 1; omega
  | false =>
    rw [if_neg Bool.false_ne_true, unit_step (k + 2) e _ 2 0 0 (by omega) (by omega) (by omega) hl (by omega) a (by rw [ht]; rfl) ha, unit_step (k + 1) e _ 2 _ _ (by omega) (by omega) (by omega) hl (by omega) b (by rw [ht]; rfl) hb, show (0 : Int) + 1 + 1 = 2 from rfl, unit_end]
    congr 1; omega
theorem unit4 (k : Nat) (hk : 8 ≤ k) (e : Int) (he : e = 4 ∨ e = 5) (a b c d : Int) (l : List Int) (h : isB (a :: b :: c :: d :: l)) : utf_unit.f k e (a :: b :: c :: d :: l) = some (u4 (lit e) a b c d) := by
  have hw : wid e = 4 := by rcases he with rfl | rfl <;> rfl
  have ha := h.head; have hb := h.tail.head; have hc := h.tail.tail.head; have hd := h.tail.tail.tail.head
  unfold utf_unit.f
  rw [width_eq k (by omega), Option.bind_some, hw, if_neg (by simp only [List.length_cons]; omega)]
  obtain ⟨k, rfl⟩ : ∃ j, k = j + 5 := ⟨k - 5, by omega⟩
  have hl : (4 : Int) ≤ ((a :: b :: c :: d :: l).length : Int) := by simp only [List.length_cons]; omega
  unfold u4
  cases ht : lit e with
  | true =>
    rw [if_pos rfl, unit_step (k + 4) e _ 4 0 0 (by omega) (by omega) (by omega) hl (by omega) d (by rw [ht]; rfl) hd, unit_step (k + 3) e _ 4 _ _ (by omega) (by omega) (by omega) hl (by omega) c (by rw [ht]; rfl) hc, unit_step (k + 2) e _ 4 _ _ (by omega) (by omega) (by omega) hl (by omega) b (by rw [ht]; rfl) hb, unit_step (k + 1) e _ 4 _ _ (by omega) (by omega) (by omega) hl (by omega) a (by rw [ht]; rfl) ha, show (0 : Int) + 1 + 1 + 1 + 1 = 4 from rfl, unit_end]
    congr 1; omega
  | false =>
    rw [if_neg Bool.false_ne_true, unit_step (k + 4) e _ 4 0 0 (by omega) (by omega) (by omega) hl (by omega) a (by rw [ht]; rfl) ha, unit_step (k + 3) e _ 4 _ _ (by omega) (by omega) (by omega) hl (by omega) b (by rw [ht]; rfl) hb, unit_step (k + 2) e _ 4 _ _ (by omega) (by omega) (by omega) hl (by omega) c (by rw [ht]; rfl) hc, unit_step (k + 1) e _ 4 _ _ (by omega) (by omega) (by omega) hl (by omega) d (by rw [ht]; rfl) hd, show (0 : Int) + 1 + 1 + 1 + 1 = 4 from rfl, unit_end]
    congr 1; omega
theorem scalar_eq (k : Nat) (hk : 2 ≤ k) (c : Int) : utf_scalar.f k c = some (isScalar c) := by
  obtain ⟨k, rfl⟩ : ∃ j, k = j + 1 := ⟨k - 1, by omega⟩
  unfold utf_scalar.f isScalar
  by_cases h0 : c ≥ 0
  · rw [if_pos h0]
    by_cases h1 : c ≤ 1114111
    · rw [if_pos h1]
      have hw : wrap32 c = c := by unfold wrap32; omega
      rw [hw]
      unfold utf8_ValidRune.f
      rw [if_pos (by omega)]
      by_cases h2 : c < 55296
      · rw [decide_eq_true h2, decide_eq_true (by omega)]
        simp only [utf8_ValidRune.j0, if_true, Option.bind_some]
      · rw [decide_eq_false h2]
        simp only [utf8_ValidRune.j0, Bool.false_eq_true, if_false]
        by_cases h3 : 57343 < c
        · rw [if_pos h3, if_pos h1, decide_eq_true (by omega)]; rfl
        · rw [if_neg h3, decide_eq_false (by omega)]; rfl
    · rw [if_neg h1, decide_eq_false (by omega)]
  · rw [if_neg h0, decide_eq_false (by omega)]
/-! ### the scalar at a row's beginning, and how many bytes it has; (0, 0): none -/
def low (t : Bool) (u : Int) : List Int → Int × Int
  | c :: d :: _ => if u2 t c d < 56320 ∨ 57343 < u2 t c d then (0, 0) else (65536 + (u - 55296) * 1024 + (u2 t c d - 56320), 4)
  | _ => (0, 0)
def two (t : Bool) : List Int → Int × Int
  | a :: b :: l => if 55296 ≤ u2 t a b ∧ u2 t a b < 56320 then low t (u2 t a b) l else if isScalar (u2 t a b) = true then (u2 t a b, 2) else (0, 0)
  | _ => (0, 0)
theorem two_cons (t : Bool) (a b : Int) (l : List Int) : two t (a :: b :: l) = if 55296 ≤ u2 t a b ∧ u2 t a b < 56320 then low t (u2 t a b) l else if isScalar (u2 t a b) = true then (u2 t a b, 2) else (0, 0) := rfl
theorem low_cons (t : Bool) (u c d : Int) (l : List Int) : low t u (c :: d :: l) = if u2 t c d < 56320 ∨ 57343 < u2 t c d then (0, 0) else (65536 + (u - 55296) * 1024 + (u2 t c d - 56320), 4) := rfl
theorem nx_ne (l : List UInt8) : nx l ≠ (65533, 1) := by
  unfold nx
  split
  · decide
  · split
    · decide
    · assumption
def four (t : Bool) : List Int → Int × Int
  | a :: b :: c :: d :: _ => if isScalar (u4 t a b c d) = true then (u4 t a b c d, 4) else (0, 0)
  | _ => (0, 0)
theorem four_cons (t : Bool) (a b c d : Int) (l : List Int) : four t (a :: b :: c :: d :: l) = if isScalar (u4 t a b c d) = true then (u4 t a b c d, 4) else (0, 0) := rfl
def to8 (l : List Int) : List UInt8 := l.map fun n => UInt8.ofNat n.toNat
def scal (e : Int) (l : List Int) : Int × Int := if e = 1 then (((nx (to8 l)).1 : Int), ((nx (to8 l)).2 : Int)) else if e = 2 ∨ e = 3 then two (lit e) l else four (lit e) l
theorem to8_data (l : List Int) : (strOfNums l).data.toList = to8 l := rfl
theorem to8_len (l : List Int) : (to8 l).length = l.length := List.length_map _
theorem u2_range {t : Bool} {a b : Int} (ha : 0 ≤ a ∧ a ≤ 255) (hb : 0 ≤ b ∧ b ≤ 255) : 0 ≤ u2 t a b ∧ u2 t a b ≤ 65535 := by
  unfold u2; split <;> omega
theorem u4_range {t : Bool} {a b c d : Int} (ha : 0 ≤ a ∧ a ≤ 255) (hb : 0 ≤ b ∧ b ≤ 255) (hc : 0 ≤ c ∧ c ≤ 255) (hd : 0 ≤ d ∧ d ≤ 255) : 0 ≤ u4 t a b c d ∧ u4 t a b c d ≤ 4294967295 := by
  unfold u4; split <;> omega
theorem first1 (k : Nat) (l : List Int) (h : isB l) (hne : l ≠ []) : utf_first.f k 1 l = some (scal 1 l) := by
  have hpos : 0 < l.length := List.length_pos_iff.2 hne
  unfold utf_first.f
  rw [if_pos rfl]
  unfold utf8_DecodeRune.f
  rw [if_pos ⟨hpos, List.all_eq_true.2 (fun x hx => decide_eq_true (h x hx))⟩, Option.bind_some]
  dsimp only
  have hd := decodeGo_nx (strOfNums l)
  have hne8 : to8 l ≠ [] := fun e => hne (List.map_eq_nil_iff.1 e)
  rw [to8_data, if_neg hne8] at hd
  unfold scal
  rw [if_pos rfl]
  by_cases hz : (nx (to8 l)).2 = 0
  · rw [if_pos hz] at hd
    rw [hd, nx_zero hz]
    rfl
  · rw [if_neg hz] at hd
    rw [hd]
    by_cases h1 : ((nx (to8 l)).1 : Int) = 65533
    · rw [if_pos h1]
      by_cases h2 : ((nx (to8 l)).2 : Int) ≤ 1
      · exact absurd (Prod.ext (show (nx (to8 l)).1 = 65533 by omega) (show (nx (to8 l)).2 = 1 by omega)) (nx_ne (to8 l))
      · rw [if_neg h2]
    · rw [if_neg h1]
theorem first2 (k : Nat) (hk : 10 ≤ k) (e : Int) (he : e = 2 ∨ e = 3) (l : List Int) (h : isB l) : utf_first.f k e l = some (two (lit e) l) := by
  have hw : wid e = 2 := by rcases he with rfl | rfl <;> rfl
  unfold utf_first.f
  rw [if_neg (by omega), width_eq k (by omega), Option.bind_some, hw]
  match l, h with
  | [], h =>
    rw [unit_few k (by omega) e _ (by rw [hw]; simp), Option.bind_some, if_pos rfl, if_neg (by omega)]
    obtain ⟨k, rfl⟩ : ∃ j, k = j + 1 := ⟨k - 1, by omega⟩
    simp only [utf_first.j0, Bool.false_eq_true, if_false]
    rw [scalar_eq k (by omega), Option.bind_some]; rfl
  | [a], h =>
    rw [unit_few k (by omega) e _ (by rw [hw]; simp), Option.bind_some, if_pos rfl, if_neg (by omega)]
    obtain ⟨k, rfl⟩ : ∃ j, k = j + 1 := ⟨k - 1, by omega⟩
    simp only [utf_first.j0, Bool.false_eq_true, if_false]
    rw [scalar_eq k (by omega), Option.bind_some]; rfl
  | a :: b :: l, h =>
    have ha := h.head; have hb := h.tail.head
    obtain ⟨u, hu⟩ : ∃ u, u2 (lit e) a b = u := ⟨_, rfl⟩
    have hr := u2_range (t := lit e) ha hb
    rw [unit2 k (by omega) e he a b l h, Option.bind_some, if_pos rfl, hu]
    rw [hu] at hr
    obtain ⟨k, rfl⟩ : ∃ j, k = j + 2 := ⟨k - 2, by omega⟩
    rw [two_cons, hu]
    by_cases hs : 55296 ≤ u ∧ u < 56320
    · rw [if_pos (by omega), if_pos hs, decide_eq_true hs.2]
      simp only [utf_first.j0, if_true]
      have hl2 : (2 : Int) ≤ ((a :: b :: l).length : Int) := by simp only [List.length_cons]; omega
      rw [if_pos (by omega), if_pos hl2]
      show ((utf_unit.f (k + 1) e l).bind _) = _
      match l, h.tail.tail with
      | [], _ =>
        rw [unit_few (k + 1) (by omega) e _ (by rw [hw]; simp), Option.bind_some, if_pos (by omega)]
        simp only [utf_first.j1, if_true]; rfl
      | [c], _ =>
        rw [unit_few (k + 1) (by omega) e _ (by rw [hw]; simp), Option.bind_some, if_pos (by omega)]
        simp only [utf_first.j1, if_true]; rfl
      | c :: d :: l, hcd =>
        have hr2 := u2_range (t := lit e) hcd.head hcd.tail.head
        rw [unit2 (k + 1) (by omega) e he c d l hcd, Option.bind_some, low_cons]
        obtain ⟨v, hv⟩ : ∃ v, u2 (lit e) c d = v := ⟨_, rfl⟩
        rw [hv] at hr2 ⊢
        by_cases h1 : v < 56320
        · rw [if_pos h1, if_pos (.inl h1)]
          simp only [utf_first.j1, if_true]
        · rw [if_neg h1]
          by_cases h2 : 57343 < v
          · rw [decide_eq_true (by omega), if_pos (.inr h2)]
            simp only [utf_first.j1, if_true]
          · rw [decide_eq_false (by omega), if_neg (by omega)]
            simp only [utf_first.j1, Bool.false_eq_true, if_false]
            rw [wrap_id (x := u - 55296) (by omega) (by omega), wrap_id (x := (u - 55296) * 1024) (by omega) (by omega), wrap_id (x := (u - 55296) * 1024 + v) (by omega) (by omega), wrap_id (x := (u - 55296) * 1024 + v - 56320) (by omega) (by omega), wrap_id (x := (u - 55296) * 1024 + v - 56320 + 65536) (by omega) (by omega), wrap_id (x := 2 * 2) (by omega) (by omega)]
            have : wrap32 ((u - 55296) * 1024 + v - 56320 + 65536) = 65536 + (u - 55296) * 1024 + (v - 56320) := by unfold wrap32; omega
            rw [this]; rfl
    · have key : utf_first.j0 (k + 2) e (a :: b :: l) 2 u false = some (if isScalar u = true then (u, 2) else (0, 0)) := by
        simp only [utf_first.j0, Bool.false_eq_true, if_false]
        rw [scalar_eq (k + 1) (by omega), Option.bind_some]
        have : wrap32 u = u := by unfold wrap32; omega
        rw [this]
        split <;> rfl
      rw [if_neg hs]
      by_cases h1 : u ≥ 55296
      · rw [if_pos h1, decide_eq_false (by omega), key]
      · rw [if_neg h1, key]
theorem first4 (k : Nat) (hk : 10 ≤ k) (e : Int) (he : e = 4 ∨ e = 5) (l : List Int) (h : isB l) : utf_first.f k e l = some (four (lit e) l) := by
  have hw : wid e = 4 := by rcases he with rfl | rfl <;> rfl
  unfold utf_first.f
  rw [if_neg (by omega), width_eq k (by omega), Option.bind_some, hw]
  obtain ⟨k, rfl⟩ : ∃ j, k = j + 2 := ⟨k - 2, by omega⟩
  have key : ∀ u : Int, u ≤ 4294967295 → utf_first.j0 (k + 2) e l 4 u false = some (if isScalar u = true then (u, 4) else (0, 0)) := by
    intro u hu
    simp only [utf_first.j0, Bool.false_eq_true, if_false]
    rw [scalar_eq (k + 1) (by omega), Option.bind_some]
    by_cases hs : isScalar u = true
    · have hs' := of_decide_eq_true hs
      have : wrap32 u = u := by unfold wrap32; omega
      rw [if_pos hs, if_pos hs, this]
    · rw [if_neg hs, if_neg hs]
  have few : (l.length : Int) < 4 → ((utf_unit.f (k + 2) e l).bind fun t110 => (if (4 : Int) = 2 then (if t110 ≥ 55296 then (utf_first.j0 (k + 2) e l 4 t110 (decide (t110 < 56320))) else (utf_first.j0 (k + 2) e l 4 t110 false)) else (utf_first.j0 (k + 2) e l 4 t110 false))) = some (0, 0) := by
    intro hl
    rw [unit_few (k + 2) (by omega) e _ (by rw [hw]; exact hl), Option.bind_some, if_neg (by omega), key _ (by omega)]
    rfl
  match l, h, few, key with
  | [], h, few, _ => exact few (by simp)
  | [a], h, few, _ => exact few (by simp)
  | [a, b], h, few, _ => exact few (by simp)
  | [a, b, c], h, few, _ => exact few (by simp)
  | a :: b :: c :: d :: l, h, few, key =>
    have hr := u4_range (t := lit e) h.head h.tail.head h.tail.tail.head h.tail.tail.tail.head
    rw [unit4 (k + 2) (by omega) e he a b c d l h, Option.bind_some, if_neg (by omega), key _ hr.2]
    rfl
theorem first_eq (k : Nat) (hk : 10 ≤ k) (e : Int) (he : 1 ≤ e ∧ e ≤ 5) (l : List Int) (h : isB l) (hne : l ≠ []) : utf_first.f k e l = some (scal e l) := by
  by_cases h1 : e = 1
  · subst h1; exact first1 k l h hne
  unfold scal
  rw [if_neg h1]
  by_cases h2 : e = 2 ∨ e = 3
  · rw [if_pos h2]; exact first2 k hk e h2 l h
  · rw [if_neg h2]; exact first4 k hk e (by omega) l h
end Go.Proofs.YtmpdggphhhljhaaDoor.UtfSpec
