/- Parts of sixty, what is gone over, texts cut at colons: facts on byte lists, for the decimals. No conditions but sizes. -/
import Derived.Test.YtkijneohhilboaaGreatDoorFloatSpec2
import Derived.Lib.IndexLaws
namespace Go.Proofs.YtkijneohhilboaaGreatDoor.FSix
set_option linter.unusedSimpArgs false
set_option linter.unusedVariables false
open Go Go.Proofs Go.RowKit Go.Lib Go.Proofs.YtkijneohhilboaaGreatDoor.Room Go.Proofs.YtkijneohhilboaaGreatDoor.PT Go.Proofs.YtkijneohhilboaaGreatDoorW.PrintWords Go.Proofs.YtkijneohhilboaaGreatDoor.Aid Go.Proofs.YtkijneohhilboaaGreatDoor.Num Go.Proofs.YtkijneohhilboaaGreatDoor.BigFns Go.Proofs.YtkijneohhilboaaGreatDoor.BigQ Go.Proofs.YtkijneohhilboaaGreatDoor.RefBig Go.Proofs.YtkijneohhilboaaGreatDoor.DecSpec Go.Proofs.YtkijneohhilboaaGreatDoor.NumSpec Go.Proofs.YtkijneohhilboaaGreatDoor.IntSpec
theorem okD_one (c : UInt8) : okD [c] = isD' c := by
  rw [Bool.eq_iff_iff, okD_iff]
  unfold isD'
  rw [decide_eq_true_iff]
  exact ⟨fun h => h.1 c (by simp), fun h => ⟨fun x hx => by rw [List.mem_singleton.1 hx]; exact h, by simp⟩⟩
theorem okPart_one (c : UInt8) : okPart [c] = isD' c := by unfold okPart; rw [okD_one]; simp
theorem isD'_iff (c : UInt8) : isD' c = true ↔ 48 ≤ c.toNat ∧ c.toNat ≤ 57 := decide_eq_true_iff
theorem sixW_some : ∀ (ps : List (List UInt8)) (n : Nat), (sixW ps n).isSome = ps.all okPart
  | [], n => rfl
  | p :: ps, n => by
    unfold sixW
    rw [List.all_cons]
    cases okPart p with
    | true => rw [if_pos rfl, sixW_some ps, Bool.true_and]
    | false => rw [if_neg Bool.false_ne_true, Bool.false_and]; rfl
theorem okG_append (B : Nat) (a b : List UInt8) : okG B (a ++ b) = (okG B a && okG B b) := by unfold okG; rw [List.all_append]
theorem okG58 (q : List UInt8) : okG 10 (58 :: q) = false := by rw [okG_cons, show ((58 : UInt8) == 95 || decide (digV 58 < 10)) = false by decide]; rfl
theorem dig_facts {x : UInt8} (h : 48 ≤ x.toNat ∧ x.toNat ≤ 57) : digV x < 10 ∧ x ≠ 95 ∧ x ≠ 58 := by
  refine ⟨by unfold digV; rw [if_pos h]; omega, fun e => ?_, fun e => ?_⟩
  · subst e; exact absurd h.2 (by decide)
  · subst e; exact absurd h.2 (by decide)
theorem okG_dig {x : UInt8} (h : 48 ≤ x.toNat ∧ x.toNat ≤ 57) (r : List UInt8) : okG 10 (x :: r) = okG 10 r := by
  rw [okG_cons, decide_eq_true (dig_facts h).1, Bool.or_true, Bool.true_and]
theorem sift_dig {x : UInt8} (h : 48 ≤ x.toNat ∧ x.toNat ≤ 57) (r : List UInt8) : sift (x :: r) = x :: sift r := by
  rw [sift_cons, if_neg (dig_facts h).2.1]
theorem bareL_dig {x : UInt8} (h : 48 ≤ x.toNat ∧ x.toNat ≤ 57) (r : List UInt8) : bareL 10 (x :: r) = if okG 10 r = true then some (x :: sift r) else none := by
  unfold bareL
  rw [okG_dig h, sift_dig h]
  by_cases ho : okG 10 r = true
  · rw [if_pos ⟨ho, by simp⟩, if_pos ho]
  · rw [if_neg (fun q => ho q.1), if_neg ho]
theorem six_of {x : UInt8} (h : 48 ≤ x.toNat ∧ x.toNat ≤ 57) {r p q : List UInt8} (e : r = p ++ 58 :: q) (hp : 58 ∉ p) : six (x :: r) = if okG 10 p = true then sixW (cols q) (val (x :: sift p)) else none := by
  have hP : 58 ∉ x :: p := fun q => by
    rcases List.mem_cons.1 q with e | e
    · exact (dig_facts h).2.2 e.symm
    · exact hp e
  obtain ⟨q0, qs, hq⟩ : ∃ q0 qs, cols q = q0 :: qs := by
    cases hc : cols q with
    | nil => exact absurd hc (cols_ne q)
    | cons a b => exact ⟨a, b, rfl⟩
  unfold six
  rw [(cols_head (x :: r)).2 (x :: p) q (by rw [e]; rfl) hP, hq]
  show (if firstD (x :: p) = true then (match bareL 10 (x :: p) with | some d => sixW (q0 :: qs) (val d) | none => none) else none) = _
  rw [show firstD (x :: p) = true from decide_eq_true h, if_pos rfl, bareL_dig h]
  cases okG 10 p with
  | true => rw [if_pos rfl, if_pos rfl]
  | false => rw [if_neg Bool.false_ne_true, if_neg Bool.false_ne_true]
theorem six_none {x : UInt8} (h : 48 ≤ x.toNat ∧ x.toNat ≤ 57) {r : List UInt8} (hr : 58 ∉ r) : six (x :: r) = none := by
  have hP : 58 ∉ x :: r := fun q => by
    rcases List.mem_cons.1 q with e | e
    · exact (dig_facts h).2.2 e.symm
    · exact hr e
  unfold six
  rw [(cols_head (x :: r)).1 hP]; rfl
theorem index_at (c : UInt8) : ∀ (p r : List UInt8), c ∉ p → Lib.index (p ++ c :: r) [c] = (p.length : Int)
  | [], r, _ => by rw [List.nil_append, Lib.index, if_pos (by simp [List.isPrefixOf])]; rfl
  | x :: p, r, h => by
    have hx : ¬ c = x := fun e => h (by simp [e])
    have ih := index_at c p r (fun e => h (by simp [e]))
    rw [List.cons_append, Lib.index, if_neg (by simp [List.isPrefixOf, hx]), ih, if_neg (by rw [beq_iff_eq]; omega), List.length_cons]
    omega
theorem index_miss (c : UInt8) : ∀ (p : List UInt8), c ∉ p → Lib.index p [c] = -1
  | [], _ => rfl
  | x :: p, h => by
    have hx : ¬ c = x := fun e => h (by simp [e])
    rw [Lib.index, if_neg (by simp [List.isPrefixOf, hx]), index_miss c p (fun e => h (by simp [e]))]; rfl
theorem spanC (c : UInt8) (q : List UInt8) : c ∉ q ∨ ∃ p r, q = p ++ c :: r ∧ c ∉ p := by
  induction q with
  | nil => exact .inl (by simp)
  | cons x q ih =>
    by_cases hx : x = c
    · exact .inr ⟨[], q, by rw [hx]; rfl, by simp⟩
    · rcases ih with h | ⟨p, r, e, hp⟩
      · left; intro q'
        rcases List.mem_cons.1 q' with e | e
        · exact hx e.symm
        · exact h e
      · right
        refine ⟨x :: p, r, by rw [e]; rfl, fun q' => ?_⟩
        rcases List.mem_cons.1 q' with e | e
        · exact hx e.symm
        · exact hp e
theorem sift_append (a b : List UInt8) : sift (a ++ b) = sift a ++ sift b := List.filter_append ..
theorem sift_no {p : List UInt8} (h : 95 ∉ p) : sift p = p := by
  unfold sift
  rw [List.filter_eq_self]
  intro x hx
  rw [bne_iff_ne]
  intro e; subst e; exact h hx
theorem replaceK_sift : ∀ (m : Nat) (l : List UInt8), l.length ≤ m → Lib.replaceK [95] [] (Lib.count l [95]) l = sift l := by
  intro m
  induction m with
  | zero =>
    intro l hl
    have : l = [] := List.length_eq_zero_iff.1 (by omega)
    subst this; rfl
  | succ m ih =>
    intro l hl
    rcases spanC 95 l with h | ⟨p, r, e, hp⟩
    · rw [Lib.count_miss (index_miss 95 l h)]
      exact (sift_no h).symm
    · have hi := index_at 95 p r hp
      have hlen : l.length = p.length + (r.length + 1) := by rw [e, List.length_append, List.length_cons]
      have hd : l.drop (p.length + 1) = r := by
        rw [e, show p ++ 95 :: r = (p ++ [95]) ++ r by simp, show p.length + 1 = (p ++ [95]).length by simp]
        exact List.drop_left' rfl
      rw [← e] at hi
      rw [Lib.count_hit (by simp) hi, show (([95] : List UInt8)).length = 1 from rfl, hd, Nat.add_comm 1, Lib.replaceK_hit _ _ _ _ p.length hi, show (([95] : List UInt8)).length = 1 from rfl, hd, ih r (by omega), List.append_nil, e, List.take_left' rfl, sift_append, sift_cons, if_pos rfl, sift_no hp]
theorem Replace_eq (l : List UInt8) (hl : l.length ≤ 1000000) : strings_ReplaceAll.f (txt l) (⟨#[95]⟩ : ByteArray) (⟨#[]⟩ : ByteArray) = some (txt (sift l)) := by
  unfold strings_ReplaceAll.f
  rw [if_pos ⟨by rw [txt_size]; omega, by decide, by rw [txt_size, show (⟨#[]⟩ : ByteArray).size = 0 from rfl, Nat.mul_zero]; omega⟩]
  congr 1
  apply ext_list
  show Lib.replaceAll l [95] [] = sift l
  unfold Lib.replaceAll Lib.replace Lib.replaceNum
  rw [if_neg (by decide), if_pos (.inl (by decide))]
  exact replaceK_sift l.length l (Nat.le_refl _)
theorem split_cols : ∀ (m : Nat) (l : List UInt8), l.length ≤ m → Lib.splitB (txt [58]) 0 (Lib.count l [58]) (txt l) = (cols l).map txt ∧ (cols l).length = Lib.count l [58] + 1 := by
  intro m
  induction m with
  | zero =>
    intro l hl
    have : l = [] := List.length_eq_zero_iff.1 (by omega)
    subst this; exact ⟨rfl, rfl⟩
  | succ m ih =>
    intro l hl
    rcases span58 l with ⟨h, hc⟩ | ⟨p, r, e, hp, hc, _⟩
    · have hi := index_miss 58 l h
      rw [Lib.count_miss hi, hc]
      exact ⟨Lib.splitB_zero _ _ _, rfl⟩
    · have hi := index_at 58 p r hp
      have hlen : l.length = p.length + (r.length + 1) := by rw [e, List.length_append, List.length_cons]
      have hd : l.drop (p.length + 1) = r := by
        rw [e, show p ++ 58 :: r = (p ++ [58]) ++ r by simp, show p.length + 1 = (p ++ [58]).length by simp]
        exact List.drop_left' rfl
      rw [← e] at hi
      obtain ⟨i1, i2⟩ := ih r (by omega)
      have hB : Lib.indexB (txt l) (txt [58]) = (p.length : Int) := hi
      have e1 : (txt l).extract 0 (p.length + 0) = txt p := by apply ext_list; rw [extract_take, txt_list, txt_list, e, Nat.add_zero]; exact List.take_left' rfl
      have e2 : (txt l).extract (p.length + (txt [58]).size) (txt l).size = txt r := by apply ext_list; rw [extract_end, txt_list, txt_list, txt_size]; exact hd
      rw [Lib.count_hit (by simp) hi, show (([58] : List UInt8)).length = 1 from rfl, hd, Nat.add_comm 1, Lib.splitB_hit _ _ _ _ p.length hB, e1, e2, i1, hc, List.map_cons, List.length_cons, i2]
      exact ⟨rfl, rfl⟩
theorem Split_eq (l : List UInt8) (hl : l.length ≤ 1000000) : strings_Split.f (txt l) (⟨#[58]⟩ : ByteArray) = some ((cols l).map txt) := by
  obtain ⟨h1, h2⟩ := split_cols l.length l (Nat.le_refl _)
  have hcl := cols_len l
  have hc : Lib.countB (txt l) (⟨#[58]⟩ : ByteArray) = Lib.count l [58] := rfl
  unfold strings_Split.f
  have hs : Lib.splitB (⟨#[58]⟩ : ByteArray) 0 (Lib.countB (txt l) (⟨#[58]⟩ : ByteArray)) (txt l) = (cols l).map txt := h1
  rw [hs, hc, if_pos ⟨by rw [txt_size]; omega, by decide, by rw [List.length_map, h2], by unfold maxLen; omega⟩]
theorem bigMulAdd (n v : Nat) (hv : v ≤ 100) (hn : (decDigits n).length ≤ 400) (k : Nat) (hk : 2000 ≤ k) : big_MulAdd.f k (num (n : Int)) 60 (v : Int) = some (num ((n * 60 + v : Nat) : Int)) := by
  unfold big_MulAdd.f
  rw [Good_num (n : Int) (by rw [Int.natAbs_natCast]; omega) k (by rw [Int.natAbs_natCast]; omega)]
  simp only [Option.bind_some, if_true]
  obtain ⟨x, r, e, hx⟩ := dec_no45 n
  have hp := dec_pos n
  rw [num_nat, if_pos (by rw [txt_size]; omega), if_neg]
  · unfold big_step.f
    rw [if_pos (show (0 : Int) ≤ 60 by decide), if_pos (show (0 : Int) ≤ (v : Int) by omega), decide_eq_true (show (60 : Int) ≤ 1099511627776 by decide), decide_eq_true (show (v : Int) ≤ 1099511627776 by omega)]
    simp only [Option.bind_some, if_true]
    rw [times_eq n 60 v (by decide) (by decide) (by omega) (by omega) (by omega) k (by omega), show (n : Int) * 60 + (v : Int) = ((n * 60 + v : Nat) : Int) by omega]
    try rfl
  · rw [show (0 : Int) = ((0 : Nat) : Int) from rfl, bt_nat, txt_list, e]
    intro h
    have h' : (x.toNat : Int) = 45 := h
    exact hx (UInt8.toNat_inj.1 (by have e45 : (45 : UInt8).toNat = 45 := rfl; omega))
theorem Norm_num (neg : Bool) (n : Nat) (hn : (decDigits n).length ≤ 1000) (k : Nat) (hk : 2000 ≤ k) : big_Norm.f k neg (num (n : Int)) = some (num (if neg = true then -(n : Int) else (n : Int))) := by
  rw [num_nat, Norm_any neg _ (by omega) k (by omega), (okD_iff _).2 ⟨dec_digs n, dec_ne n⟩, if_pos rfl, dec_val]
theorem cols_mem : ∀ (q : List UInt8) (x : UInt8), x ∈ q → x = 58 ∨ ∃ p ∈ cols q, x ∈ p := by
  intro q
  induction q with
  | nil => intro x h; cases h
  | cons y q ih =>
    intro x h
    by_cases hy : y = 58
    · rcases List.mem_cons.1 h with e | e
      · exact .inl (e.trans hy)
      · rcases ih x e with h' | ⟨p, hp, hx⟩
        · exact .inl h'
        · right
          refine ⟨p, ?_, hx⟩
          rw [cols, if_pos hy]; exact List.mem_cons_of_mem _ hp
    · obtain ⟨p0, ps, hc⟩ : ∃ p0 ps, cols q = p0 :: ps := by
        cases hc : cols q with
        | nil => exact absurd hc (cols_ne q)
        | cons a b => exact ⟨a, b, rfl⟩
      have e1 : cols (y :: q) = (y :: p0) :: ps := by rw [cols, if_neg hy, hc]
      rw [e1]
      rcases List.mem_cons.1 h with e | e
      · exact .inr ⟨y :: p0, by simp, by rw [e]; simp⟩
      · rcases ih x e with h' | ⟨p, hp, hx⟩
        · exact .inl h'
        · rw [hc] at hp
          rcases List.mem_cons.1 hp with rfl | hp
          · exact .inr ⟨y :: p, by simp, by simp [hx]⟩
          · exact .inr ⟨p, by simp [hp], hx⟩
theorem parts_no95 {q : List UInt8} (h : (cols q).all okPart = true) : 95 ∉ q := by
  intro hx
  rcases cols_mem q 95 hx with e | ⟨p, hp, hx⟩
  · exact absurd e (by decide)
  · have := (okPart_digs (List.all_eq_true.1 h p hp)).1 95 hx
    exact absurd this.2 (by decide)
theorem okG_no58 {p : List UInt8} (h : okG 10 p = true) : 58 ∉ p := by
  intro hx
  have := List.all_eq_true.1 h 58 hx
  exact absurd this (by decide)
end Go.Proofs.YtkijneohhilboaaGreatDoor.FSix
