/- What is put into a whole number's text, or on it: what its core says then. No conditions. -/
import Derived.Test.YtkijneohhilboaaDoorInt11Law
namespace Go.Proofs.YtkijneohhilboaaDoor.IntSpec
set_option linter.unusedSimpArgs false
set_option linter.unusedVariables false
open Go.RowKit Go.Lib Go.Proofs.YtkijneohhilboaaDoor.Room Go.Proofs.YtkijneohhilboaaDoor.PI Go.Proofs.YtkijneohhilboaaDoorW.PrintWords Go.Proofs.YtkijneohhilboaaDoor.Aid Go.Proofs.YtkijneohhilboaaDoor.Num Go.Proofs.YtkijneohhilboaaDoor.BigFns Go.Proofs.YtkijneohhilboaaDoor.BigQ Go.Proofs.YtkijneohhilboaaDoor.RefBig Go.Proofs.YtkijneohhilboaaDoor.DecSpec Go.Proofs.YtkijneohhilboaaDoor.NumSpec
theorem okG_gap (B : Nat) {g : List UInt8} (hg : ∀ x ∈ g, x = 95) : okG B g = true := by
  unfold okG
  rw [List.all_eq_true]
  intro x hx
  rw [hg x hx]; rfl
theorem sift_gap {g : List UInt8} (hg : ∀ x ∈ g, x = 95) : sift g = [] := by
  unfold sift
  rw [List.filter_eq_nil_iff]
  intro x hx
  rw [hg x hx]; decide
theorem okG_put (B : Nat) (p g q : List UInt8) (hg : ∀ x ∈ g, x = 95) : okG B (p ++ (g ++ q)) = okG B (p ++ q) := by
  rw [okG_append, okG_append, okG_append, okG_gap B hg, Bool.true_and]
theorem sift_put (p g q : List UInt8) (hg : ∀ x ∈ g, x = 95) : sift (p ++ (g ++ q)) = sift (p ++ q) := by
  rw [sift_append, sift_append, sift_append, sift_gap hg, List.nil_append]
theorem bareL_put (B : Nat) (p g q : List UInt8) (hg : ∀ x ∈ g, x = 95) : bareL B (p ++ (g ++ q)) = bareL B (p ++ q) := by
  unfold bareL
  rw [okG_put B p g q hg, sift_put p g q hg]
theorem okG_head {B : Nat} {x : UInt8} {r : List UInt8} (h : okG B (x :: r) = true) : x = 95 ∨ digV x < B := by
  rw [okG_cons, Bool.and_eq_true, Bool.or_eq_true, beq_iff_eq, decide_eq_true_iff] at h
  exact h.1
/-- what the core is, by cases -/
theorem core_cases {t : List UInt8} {n : Nat} {f : Int} (h : core11 t = some (n, f)) :
    (∃ d, t = 48 :: 98 :: d ∧ ∃ e, bareL 2 d = some e ∧ n = bval 2 e ∧ f = 1) ∨ (∃ d, t = 48 :: 120 :: d ∧ ∃ e, bareL 16 d = some e ∧ n = bval 16 e ∧ f = 2) ∨ (t = [48] ∧ n = 0 ∧ f = 4) ∨
    (∃ d, t = 48 :: d ∧ d.head? ≠ some 98 ∧ d.head? ≠ some 120 ∧ ∃ e, bareL 8 d = some e ∧ n = bval 8 e ∧ f = 3) ∨
    (∃ x r, t = x :: r ∧ (49 ≤ x.toNat ∧ x.toNat ≤ 57) ∧ ((∃ e, bareL 10 (x :: r) = some e ∧ n = val e ∧ f = 5) ∨ (bareL 10 (x :: r) = none ∧ six (x :: r) = some n ∧ f = 6))) := by
  unfold core11 at h
  split at h
  · rename_i h1
    obtain ⟨e, he, hh⟩ := Option.map_eq_some_iff.1 h
    refine .inl ⟨t.drop 2, ?_, e, he, (Prod.mk.inj hh).1.symm, (Prod.mk.inj hh).2.symm⟩
    rw [← List.take_append_drop 2 t, h1]; rfl
  · split at h
    · rename_i h1
      obtain ⟨e, he, hh⟩ := Option.map_eq_some_iff.1 h
      refine .inr (.inl ⟨t.drop 2, ?_, e, he, (Prod.mk.inj hh).1.symm, (Prod.mk.inj hh).2.symm⟩)
      rw [← List.take_append_drop 2 t, h1]; rfl
    · split at h
      · rename_i h1
        have hh := Option.some.inj h
        exact .inr (.inr (.inl ⟨h1, (Prod.mk.inj hh).1.symm, (Prod.mk.inj hh).2.symm⟩))
      · split at h
        · rename_i n1 n2 n3 h1
          obtain ⟨e, he, hh⟩ := Option.map_eq_some_iff.1 h
          obtain ⟨d, rfl⟩ : ∃ d, t = 48 :: d := by
            cases t with
            | nil => cases h1
            | cons x r => exact ⟨r, by rw [Option.some.inj (show some x = some 48 from h1)]⟩
          refine .inr (.inr (.inr (.inl ⟨d, rfl, fun q => n1 ?_, fun q => n2 ?_, e, he, (Prod.mk.inj hh).1.symm, (Prod.mk.inj hh).2.symm⟩)))
          · cases d with
            | nil => cases q
            | cons y r => rw [Option.some.inj (show some y = some 98 from q)]; rfl
          · cases d with
            | nil => cases q
            | cons y r => rw [Option.some.inj (show some y = some 120 from q)]; rfl
        · split at h
          · rename_i h1
            obtain ⟨x, hx, hd⟩ := h1
            obtain ⟨r, rfl⟩ : ∃ r, t = x :: r := by
              cases t with
              | nil => cases hx
              | cons y r => exact ⟨r, by rw [Option.some.inj (show some y = some x from hx)]⟩
            refine .inr (.inr (.inr (.inr ⟨x, r, rfl, hd, ?_⟩)))
            cases hb : bareL 10 (x :: r) with
            | some e =>
              rw [hb] at h
              have hh := Option.some.inj h
              exact .inl ⟨e, rfl, (Prod.mk.inj hh).1.symm, (Prod.mk.inj hh).2.symm⟩
            | none =>
              rw [hb] at h
              obtain ⟨e, he, hh⟩ := Option.map_eq_some_iff.1 h
              exact .inr ⟨rfl, by rw [he, (Prod.mk.inj hh).1], (Prod.mk.inj hh).2.symm⟩
          · cases h
theorem core_two (B : Nat) (b : UInt8) (f : Int) (hb : (b = 98 ∧ B = 2 ∧ f = 1) ∨ (b = 120 ∧ B = 16 ∧ f = 2)) (d : List UInt8) : core11 (48 :: b :: d) = (bareL B d).map fun e => (bval B e, f) := by
  rcases hb with ⟨rfl, rfl, rfl⟩ | ⟨rfl, rfl, rfl⟩
  · unfold core11
    rw [if_pos (show List.take 2 ((48 : UInt8) :: 98 :: d) = [48, 98] from rfl)]; rfl
  · unfold core11
    rw [if_neg (show ¬ List.take 2 ((48 : UInt8) :: 120 :: d) = [48, 98] by simp), if_pos (show List.take 2 ((48 : UInt8) :: 120 :: d) = [48, 120] from rfl)]; rfl
theorem core_eight (d : List UInt8) (hd : d ≠ []) (h1 : d.head? ≠ some 98) (h2 : d.head? ≠ some 120) : core11 (48 :: d) = (bareL 8 d).map fun e => (bval 8 e, 3) := by
  obtain ⟨x, r, rfl⟩ : ∃ x r, d = x :: r := by
    cases d with
    | nil => exact absurd rfl hd
    | cons x r => exact ⟨x, r, rfl⟩
  have n1 : x ≠ 98 := fun e => h1 (by rw [e]; rfl)
  have n2 : x ≠ 120 := fun e => h2 (by rw [e]; rfl)
  unfold core11
  rw [if_neg (show ¬ List.take 2 ((48 : UInt8) :: x :: r) = [48, 98] by simp [n1]), if_neg (show ¬ List.take 2 ((48 : UInt8) :: x :: r) = [48, 120] by simp [n2]), if_neg (by simp), if_pos (show List.head? ((48 : UInt8) :: x :: r) = some 48 from rfl)]; rfl
theorem core_ten {x : UInt8} (hx : 49 ≤ x.toNat ∧ x.toNat ≤ 57) (r : List UInt8) : core11 (x :: r) = (match bareL 10 (x :: r) with | some d => some (val d, 5) | none => (six (x :: r)).map fun n => (n, 6)) := by
  have h48 : x ≠ 48 := fun e => by subst e; exact absurd hx.1 (by decide)
  have ht : ∀ b : UInt8, List.take 2 (x :: r) ≠ [48, b] := fun b q => h48 (by simpa using congrArg List.head? q)
  unfold core11
  rw [if_neg (ht _), if_neg (ht _), if_neg (by simp [h48]), if_neg (by simp [h48]), if_pos ⟨x, by simp, hx⟩]
  rfl
theorem core_foreign (t : List UInt8) (h : ∀ x ∈ t.head?, ¬ (48 ≤ x.toNat ∧ x.toNat ≤ 57)) : core11 t = none := by
  cases t with
  | nil => decide
  | cons x r =>
    have hx := h x (by simp)
    have h48 : x ≠ 48 := fun e => by subst e; exact hx (by decide)
    have ht : ∀ b : UInt8, List.take 2 (x :: r) ≠ [48, b] := fun b q => h48 (by simpa using congrArg List.head? q)
    unfold core11
    rw [if_neg (ht _), if_neg (ht _), if_neg (by simp [h48]), if_neg (by simp [h48]), if_neg]
    rintro ⟨y, hy, hd⟩
    have : y = x := by simpa using hy.symm
    subst this
    omega
/-- signs that are gone over, put behind the first sign of the number -/
theorem core_gap {p g q : List UInt8} {n : Nat} {f : Int} (hf : f ≠ 4 ∧ f ≠ 6) (h : core11 (p ++ q) = some (n, f)) (hp : (if f < 3 then 2 else 1) ≤ p.length) (hg : ∀ x ∈ g, x = 95) : core11 (p ++ (g ++ q)) = some (n, f) := by
  rcases core_cases h with ⟨d, ht, e, he, hn, hf'⟩ | ⟨d, ht, e, he, hn, hf'⟩ | ⟨ht, hn, hf'⟩ | ⟨d, ht, n1, n2, e, he, hn, hf'⟩ | ⟨x, r, ht, hx, ⟨e, he, hn, hf'⟩ | ⟨he, hn, hf'⟩⟩
  · rw [hf', if_pos (by decide)] at hp
    match p, hp with
    | a :: b :: p', _ =>
      obtain ⟨rfl, ht2⟩ := List.cons.inj (show a :: (b :: (p' ++ q)) = 48 :: 98 :: d from ht)
      obtain ⟨rfl, ht3⟩ := List.cons.inj ht2
      show core11 (48 :: 98 :: (p' ++ (g ++ q))) = _
      rw [core_two 2 98 1 (.inl ⟨rfl, rfl, rfl⟩), bareL_put 2 p' g q hg, ht3, he, hn, hf']; rfl
    | [], hp => exact absurd hp (by simp)
    | [_], hp => exact absurd hp (by simp)
  · rw [hf', if_pos (by decide)] at hp
    match p, hp with
    | a :: b :: p', _ =>
      obtain ⟨rfl, ht2⟩ := List.cons.inj (show a :: (b :: (p' ++ q)) = 48 :: 120 :: d from ht)
      obtain ⟨rfl, ht3⟩ := List.cons.inj ht2
      show core11 (48 :: 120 :: (p' ++ (g ++ q))) = _
      rw [core_two 16 120 2 (.inr ⟨rfl, rfl, rfl⟩), bareL_put 16 p' g q hg, ht3, he, hn, hf']; rfl
    | [], hp => exact absurd hp (by simp)
    | [_], hp => exact absurd hp (by simp)
  · exact absurd hf' hf.1
  · have hp1 : 1 ≤ p.length := by rw [hf'] at hp; exact hp
    match p, hp1 with
    | a :: p', _ =>
      obtain ⟨rfl, ht2⟩ := List.cons.inj (show a :: (p' ++ q) = 48 :: d from ht)
      show core11 (48 :: (p' ++ (g ++ q))) = _
      have hb : bareL 8 (p' ++ (g ++ q)) = some e := by rw [bareL_put 8 p' g q hg, ht2, he]
      obtain ⟨e1, e2, e3, e4⟩ := bareL_ok hb
      have hne : p' ++ (g ++ q) ≠ [] := fun q => by rw [q] at e1; exact e3 e1
      obtain ⟨y, r, hy⟩ : ∃ y r, p' ++ (g ++ q) = y :: r := by
        cases hh : p' ++ (g ++ q) with
        | nil => exact absurd hh hne
        | cons y r => exact ⟨y, r, rfl⟩
      have hy8 := okG_head (hy ▸ e2)
      rw [core_eight _ hne, hb, hn, hf']
      · rfl
      · rw [hy]; intro q; have : y = 98 := by simpa using q
        subst this; revert hy8; decide
      · rw [hy]; intro q; have : y = 120 := by simpa using q
        subst this; revert hy8; decide
    | [], hp => exact absurd hp (by simp)
  · have hp1 : 1 ≤ p.length := by rw [hf'] at hp; exact hp
    match p, hp1 with
    | a :: p', _ =>
      obtain ⟨rfl, ht2⟩ := List.cons.inj (show a :: (p' ++ q) = x :: r from ht)
      show core11 (a :: (p' ++ (g ++ q))) = _
      have hb : bareL 10 (a :: (p' ++ (g ++ q))) = some e := by
        rw [← List.cons_append, bareL_put 10 (a :: p') g q hg, List.cons_append, ht2, he]
      rw [core_ten hx, hb, hn, hf']
    | [], hp => exact absurd hp (by simp)
  · exact absurd hf' hf.2
/-- a strange sign put behind -/
theorem okG_strange (B : Nat) (hB : B ≤ 16) (t : List UInt8) (c : UInt8) (hc : 16 ≤ digV c ∧ c ≠ 95) : okG B (t ++ [c]) = false := by
  rw [okG_append, okG_cons, decide_eq_false (show ¬ digV c < B by omega), beq_eq_false_iff_ne.2 hc.2]
  simp
theorem bareL_strange (B : Nat) (hB : B ≤ 16) (t : List UInt8) (c : UInt8) (hc : 16 ≤ digV c ∧ c ≠ 95) : bareL B (t ++ [c]) = none := by
  unfold bareL
  rw [okG_strange B hB t c hc, if_neg (fun q => absurd q.1 Bool.false_ne_true)]
theorem cols_back (c : UInt8) : ∀ (m : Nat) (q : List UInt8), q.length ≤ m → (c ≠ 58 → ∃ ps p, cols (q ++ [c]) = ps ++ [p ++ [c]]) ∧ (c = 58 → ∃ ps, cols (q ++ [c]) = ps ++ [[]])
  | m, q, hm => by
    rcases span58 q with ⟨h, hc⟩ | ⟨p, r, e, hp, hc, _⟩
    · refine ⟨fun hne => ⟨[], q, ?_⟩, fun he => ⟨[q], ?_⟩⟩
      · rw [(cols_head _).1 (fun hm => (List.mem_append.1 hm).elim h (fun q => hne (List.mem_singleton.1 q).symm))]; rfl
      · subst he
        rw [(cols_head _).2 q [] rfl h]; rfl
    · cases m with
      | zero => rw [e, List.length_append, List.length_cons] at hm; omega
      | succ m =>
        obtain ⟨i1, i2⟩ := cols_back c m r (by rw [e, List.length_append, List.length_cons] at hm; omega)
        have hx : cols (q ++ [c]) = p :: cols (r ++ [c]) := (cols_head _).2 p (r ++ [c]) (by rw [e]; simp) hp
        refine ⟨fun hne => ?_, fun he => ?_⟩
        · obtain ⟨ps, p', h'⟩ := i1 hne
          exact ⟨p :: ps, p', by rw [hx, h']; rfl⟩
        · obtain ⟨ps, h'⟩ := i2 he
          exact ⟨p :: ps, by rw [hx, h']; rfl⟩
theorem okD_back {p : List UInt8} {c : UInt8} (hc : ¬ (48 ≤ c.toNat ∧ c.toNat ≤ 57)) : okD (p ++ [c]) = false := by
  cases h : okD (p ++ [c]) with
  | false => rfl
  | true => exact absurd (((okD_iff _).1 h).1 c (by simp)) hc
theorem sixW_bad {ps : List (List UInt8)} {p : List UInt8} (hp : p ∈ ps) (h : okPart p = false) (n : Nat) : sixW ps n = none := by
  have := sixW_some ps n
  cases hs : sixW ps n with
  | none => rfl
  | some m =>
    rw [hs] at this
    have ha := List.all_eq_true.1 this.symm p hp
    rw [h] at ha; cases ha
theorem six_back {x : UInt8} (hx : 48 ≤ x.toNat ∧ x.toNat ≤ 57) (r : List UInt8) (c : UInt8) (hc : 16 ≤ digV c ∧ c ≠ 95) : six (x :: (r ++ [c])) = none := by
  have hd : ¬ (48 ≤ c.toNat ∧ c.toNat ≤ 57) := fun q => by
    have := hc.1
    unfold digV at this
    rw [if_pos q] at this; omega
  rcases span58 (r ++ [c]) with ⟨h, _⟩ | ⟨p, q, e, hp, _, _⟩
  · exact six_none hx h
  · rw [six_of hx e hp]
    split
    · rename_i hok
      by_cases h58 : c = 58
      · subst h58
        obtain ⟨q', hq⟩ : ∃ q' : List UInt8, 58 :: q = q' ++ [58] := by
          obtain ⟨l, y, hl⟩ : ∃ l y, (58 : UInt8) :: q = l ++ [y] := ⟨_, _, (List.dropLast_concat_getLast (List.cons_ne_nil _ _)).symm⟩
          refine ⟨l, ?_⟩
          rw [hl] at e ⊢
          rw [← List.append_assoc] at e
          have := (List.append_inj' e rfl).2
          rw [this]
        cases q' with
        | nil =>
          have : q = [] := by simpa using hq
          subst this
          exact sixW_bad (p := []) (by decide) (by decide) _
        | cons y q' =>
          have : q = q' ++ [58] := (List.cons.inj hq).2
          obtain ⟨ps, hps⟩ := (cols_back 58 q'.length q' (Nat.le_refl _)).2 rfl
          rw [this, hps]
          exact sixW_bad (p := []) (by simp) (by decide) _
      · have hq : ∃ q', q = q' ++ [c] := by
          have hne : q ≠ [] := fun h => by
            subst h
            have := (List.append_inj' (show r ++ [c] = p ++ [58] from e) rfl).2
            exact h58 (List.cons.inj this).1
          refine ⟨q.dropLast, ?_⟩
          have hl := List.dropLast_concat_getLast hne
          rw [← hl, ← List.cons_append, ← List.append_assoc] at e
          have := (List.append_inj' e rfl).2
          rw [this, hl]
        obtain ⟨q', rfl⟩ := hq
        obtain ⟨ps, p', hps⟩ := (cols_back c q'.length q' (Nat.le_refl _)).1 h58
        rw [hps]
        refine sixW_bad (p := p' ++ [c]) (by simp) ?_ _
        unfold okPart
        rw [okD_back hd, Bool.false_and]
    · rfl
theorem core_back (t : List UInt8) (ht : t ≠ []) (c : UInt8) (hc : 16 ≤ digV c ∧ c ≠ 95) : core11 (t ++ [c]) = none := by
  have hcd : ¬ (48 ≤ c.toNat ∧ c.toNat ≤ 57) := fun q => by
    have := hc.1
    unfold digV at this
    rw [if_pos q] at this; omega
  cases hh : core11 (t ++ [c]) with
  | none => rfl
  | some nf =>
    obtain ⟨n, f⟩ := nf
    have last : ∀ (a b : List UInt8), b ≠ [] → t ++ [c] = a ++ b → ∃ b', b = b' ++ [c] := fun a b hb h => by
      refine ⟨b.dropLast, ?_⟩
      have hl := List.dropLast_concat_getLast hb
      rw [← hl, ← List.append_assoc] at h
      have := (List.append_inj' h rfl).2
      rw [this, hl]
    have bare : ∀ (B : Nat) (a d e : List UInt8), B ≤ 16 → t ++ [c] = a ++ d → bareL B d = some e → False := fun B a d e hB h he => by
      have hd : d ≠ [] := fun q => by
        obtain ⟨e1, _, e3, _⟩ := bareL_ok he
        rw [q] at e1; exact e3 e1
      obtain ⟨b', rfl⟩ := last a d hd h
      rw [bareL_strange B hB b' c hc] at he
      cases he
    rcases core_cases hh with ⟨d, ht', e, he, _⟩ | ⟨d, ht', e, he, _⟩ | ⟨ht', _⟩ | ⟨d, ht', n1, n2, e, he, _⟩ | ⟨x, r, ht', hx, ⟨e, he, _⟩ | ⟨he, hn, _⟩⟩
    · exact (bare 2 [48, 98] d e (by omega) ht' he).elim
    · exact (bare 16 [48, 120] d e (by omega) ht' he).elim
    · have := congrArg List.length ht'
      rw [List.length_append] at this
      exact absurd (List.length_eq_zero_iff.1 (by simpa using this)) ht
    · exact (bare 8 [48] d e (by omega) ht' he).elim
    · exact (bare 10 [] (x :: r) e (by omega) ht' he).elim
    · obtain ⟨b', hb⟩ := last [] (x :: r) (List.cons_ne_nil _ _) ht'
      cases b' with
      | nil =>
        have := congrArg List.length (ht'.trans hb)
        rw [List.length_append] at this
        exact absurd (List.length_eq_zero_iff.1 (by simpa using this)) ht
      | cons y b' =>
        obtain ⟨rfl, rfl⟩ := List.cons.inj hb
        have := six_back (x := x) ⟨by omega, hx.2⟩ b' c hc
        exact absurd (this.symm.trans hn) (by simp)
/-- a number's own digits -/
theorem core_dec (n : Nat) : core11 (decDigits n) = some (n, if n = 0 then 4 else 5) := by
  by_cases hn : n = 0
  · subst hn; rw [dec_zero]; decide
  · rw [if_neg hn]
    obtain ⟨x, r, hxr, h48⟩ := dec_head n (by omega)
    have hd := dec_digs n
    have hx : 48 ≤ x.toNat ∧ x.toNat ≤ 57 := hd x (by rw [hxr]; simp)
    have hx49 : 49 ≤ x.toNat ∧ x.toNat ≤ 57 := ⟨by
      have : x.toNat ≠ 48 := fun e => h48 (UInt8.toNat_inj.1 e)
      omega, hx.2⟩
    have h95 : 95 ∉ decDigits n := fun q => absurd (show 48 ≤ (95 : UInt8).toNat ∧ (95 : UInt8).toNat ≤ 57 from hd 95 q) (by decide)
    have hok : okG 10 (decDigits n) = true := by
      unfold okG
      rw [List.all_eq_true]
      intro y hy
      have := hd y hy
      rw [decide_eq_true (dig_facts this).1, Bool.or_true]
    have hb : bareL 10 (decDigits n) = some (decDigits n) := by
      unfold bareL
      rw [if_pos ⟨hok, by rw [sift_no h95]; exact dec_ne n⟩, sift_no h95]
    have := core_ten hx49 r
    rw [← hxr, hb] at this
    rw [this]
    show some (Go.Proofs.YtkijneohhilboaaDoor.Num.val (decDigits n), (5 : Int)) = _
    rw [dec_val]
theorem bval_lim (B : Nat) : ∀ (m : Nat) (l : List UInt8), l.length = m → goodB B l = true → bval B l < B ^ m := by
  intro m
  induction m with
  | zero => intro l hl _; rw [List.length_eq_zero_iff.1 hl]; simp [bval]
  | succ m ih =>
    intro l hl h
    have hne : l ≠ [] := fun e => by rw [e] at hl; simp at hl
    obtain ⟨l', y, rfl⟩ : ∃ l' y, l = l' ++ [y] := ⟨l.dropLast, l.getLast hne, (List.dropLast_concat_getLast hne).symm⟩
    have hy := of_decide_eq_true (p := digV y < B) (List.all_eq_true.1 h y (by simp))
    have h' : goodB B l' = true := List.all_eq_true.2 fun x hx => List.all_eq_true.1 h x (by simp [hx])
    have := ih l' (by rw [List.length_append, List.length_singleton] at hl; omega) h'
    rw [bval_snoc, Nat.pow_succ]
    have h2 := Nat.mul_le_mul_right B this
    rw [Nat.succ_mul] at h2
    omega
theorem cols_two : ∀ (m : Nat) (q : List UInt8), q.length ≤ m → (cols q).all okPart = true → 2 * (cols q).length ≤ q.length + 1
  | m, q, hm, h => by
    have ne : ∀ p : List UInt8, okPart p = true → 1 ≤ p.length := fun p hp => by
      have := (okPart_digs hp).2
      cases p with
      | nil => exact absurd rfl this
      | cons x r => simp
    rcases span58 q with ⟨_, hc⟩ | ⟨p, r, e, hp, hc, _⟩
    · rw [hc] at h ⊢
      have := ne q (by simpa using h)
      simp only [List.length_cons, List.length_nil]; omega
    · rw [hc] at h ⊢
      rw [List.all_cons, Bool.and_eq_true] at h
      have h1 := ne p h.1
      rw [e, List.length_append, List.length_cons] at hm ⊢
      cases m with
      | zero => omega
      | succ m =>
        have := cols_two m r (by omega) h.2
        rw [List.length_cons]; omega
theorem core_lim {t : List UInt8} {n : Nat} {f : Int} (ht : t.length ≤ 60) (h : core11 t = some (n, f)) : n < 10 ^ 80 ∧ 1 ≤ f ∧ f ≤ 6 := by
  have b16 : ∀ (B : Nat) (d e : List UInt8), B ≤ 16 → d.length ≤ 60 → bareL B d = some e → bval B e < 10 ^ 80 := fun B d e hB hd he => by
    obtain ⟨e1, e2, e3, e4⟩ := bareL_ok he
    have h1 := bval_lim B _ e rfl e4
    have h2 : B ^ e.length ≤ 16 ^ e.length := Nat.pow_le_pow_left hB _
    have h3 : (16 : Nat) ^ e.length ≤ 16 ^ 60 := Nat.pow_le_pow_right (by decide) (by rw [e1]; exact Nat.le_trans (sift_len d) hd)
    have h4 : (16 : Nat) ^ 60 ≤ 10 ^ 80 := by decide +kernel
    omega
  have t60 : (10 : Nat) ^ 61 ≤ 10 ^ 80 := Nat.pow_le_pow_right (by decide) (by decide)
  rcases core_cases h with ⟨d, ht', e, he, hn, hf⟩ | ⟨d, ht', e, he, hn, hf⟩ | ⟨ht', hn, hf⟩ | ⟨d, ht', n1, n2, e, he, hn, hf⟩ | ⟨x, r, ht', hx, ⟨e, he, hn, hf⟩ | ⟨he, hn, hf⟩⟩
  · subst ht'; rw [hn, hf]; exact ⟨b16 2 d e (by omega) (by simp at ht; omega) he, by decide, by decide⟩
  · subst ht'; rw [hn, hf]; exact ⟨b16 16 d e (by omega) (by simp at ht; omega) he, by decide, by decide⟩
  · rw [hn, hf]; exact ⟨by decide, by decide, by decide⟩
  · subst ht'; rw [hn, hf]; exact ⟨b16 8 d e (by omega) (by simp at ht; omega) he, by decide, by decide⟩
  · subst ht'
    rw [hn, hf]
    obtain ⟨e1, e2, e3, e4⟩ := bareL_ok he
    refine ⟨?_, by decide, by decide⟩
    have h1 := val_lt e (goodB_digs e4)
    have h3 : (10 : Nat) ^ e.length ≤ 10 ^ 80 := Nat.pow_le_pow_right (by decide) (by rw [e1]; exact Nat.le_trans (sift_len _) (by omega))
    omega
  · subst ht'
    rw [hf]
    refine ⟨?_, by decide, by decide⟩
    have hx' : 48 ≤ x.toNat ∧ x.toNat ≤ 57 := ⟨by omega, hx.2⟩
    rcases span58 r with ⟨h58, _⟩ | ⟨p, q, e, hp, _, _⟩
    · rw [six_none hx' h58] at hn; cases hn
    · rw [six_of hx' e hp] at hn
      split at hn
      · rename_i hok
        have hall := sixW_some (cols q) (val (x :: sift p))
        rw [hn] at hall
        have h2 := cols_two q.length q (Nat.le_refl _) hall.symm
        have h3 := sixW_lim _ _ _ hn
        have hdig : Digs (x :: sift p) := by
          have hg : bareL 10 (x :: p) = some (x :: sift p) := by rw [bareL_dig hx', if_pos hok]
          exact goodB_digs (bareL_ok hg).2.2.2
        have h4 := val_lt _ hdig
        have h5 : (10 : Nat) ^ (x :: sift p).length ≤ 10 ^ (p.length + 1) := Nat.pow_le_pow_right (by decide) (by rw [List.length_cons]; have := sift_len p; omega)
        have h6 : (val (x :: sift p) + 1) * 100 ^ (cols q).length ≤ 10 ^ (p.length + 1) * 100 ^ (cols q).length := Nat.mul_le_mul_right _ (by omega)
        have h7 : (100 : Nat) ^ (cols q).length = 10 ^ (2 * (cols q).length) := by rw [Nat.pow_mul]
        rw [h7, ← Nat.pow_add] at h6
        have hl : (x :: r).length = p.length + q.length + 2 := by rw [e]; simp; omega
        have h8 : (10 : Nat) ^ (p.length + 1 + 2 * (cols q).length) ≤ 10 ^ 80 := Nat.pow_le_pow_right (by decide) (by omega)
        rw [h7] at h3
        omega
      · cases hn
end Go.Proofs.YtkijneohhilboaaDoor.IntSpec
