/- Whole numbers of the old schema: what int11 computes: the form. No conditions but sizes. -/
import Derived.Test.YtkijneohhilboaaDoorIntSpec2
import Derived.Test.YtkijneohhilboaaDoorIntForm
import Derived.Lib.Replace
import Derived.Test.YtkijneohhilboaaDoorPVx2
namespace Go.Proofs.YtkijneohhilboaaDoor.IntSpec
set_option linter.unusedSimpArgs false
set_option linter.unusedVariables false
open Go.RowKit Go.Lib Go.Proofs.YtkijneohhilboaaDoor.Room Go.Proofs.YtkijneohhilboaaDoor.PV Go.Proofs.YtkijneohhilboaaDoorW.PrintWords Go.Proofs.YtkijneohhilboaaDoor.Aid Go.Proofs.YtkijneohhilboaaDoor.Num Go.Proofs.YtkijneohhilboaaDoor.BigFns Go.Proofs.YtkijneohhilboaaDoor.BigQ Go.Proofs.YtkijneohhilboaaDoor.RefBig Go.Proofs.YtkijneohhilboaaDoor.DecSpec Go.Proofs.YtkijneohhilboaaDoor.NumSpec Go.Proofs.YtkijneohhilboaaDoor.Jump
theorem unsigned_eq (l : List UInt8) : int11_unsigned.f (txt l) = some (((sg l).1 == [45]), txt (sg l).2) := by
  cases l with
  | nil => unfold int11_unsigned.f; rw [txt_toList, if_pos rfl]; rfl
  | cons x r =>
    have hl : (1 : Int) ≤ ((x :: r).length : Int) := by rw [List.length_cons]; omega
    unfold int11_unsigned.f
    rw [txt_toList, if_neg (by simp), bt_head, extract_one, txt_size, if_pos (by omega)]
    by_cases h1 : x = 43
    · rw [h1, if_pos (show ((43 : UInt8).toNat : Int) = 43 from rfl), if_pos (h1 ▸ hl)]; rfl
    · rw [if_neg (ne43 h1)]
      by_cases h2 : x = 45
      · rw [h2, if_pos (show ((45 : UInt8).toNat : Int) = 45 from rfl), if_pos (h2 ▸ hl)]; rfl
      · rw [if_neg (ne45 h2)]
        have : sg (x :: r) = ([], x :: r) := by unfold sg; dsimp only; rw [if_neg (by simp [h1, h2])]
        rw [this]; rfl
theorem hasPrefix1 (l : List UInt8) (a : UInt8) : strings_HasPrefix.f (txt l) (⟨#[a]⟩ : ByteArray) = some (decide (l.head? = some a)) := by
  have hp : ∀ n, ((txt l).extract 0 n).toList = l.take n := fun n => by rw [Lib.toList_data, extract_take, txt_list]
  rw [show (⟨#[a]⟩ : ByteArray) = txt [a] from rfl]
  unfold strings_HasPrefix.f stringslite_HasPrefix.f
  rw [txt_size, txt_size, show ([a] : List UInt8).length = 1 from rfl]
  cases l with
  | nil => rw [if_neg (by simp)]; rfl
  | cons x r =>
    have h : ((x :: r).length : Int) ≥ ((1 : Nat) : Int) := by rw [List.length_cons]; omega
    have e : ((1 : Nat) : Int).toNat = 1 := rfl
    simp only [h, if_true, e, hp, txt_toList]
    rw [if_pos (by omega)]
    simp only [Option.bind_some]
    congr 1
    rw [Bool.eq_iff_iff, beq_iff_eq, decide_eq_true_iff]
    simp
def hexB : List UInt8 := [48, 49, 50, 51, 52, 53, 54, 55, 56, 57, 97, 98, 99, 100, 101, 102, 65, 66, 67, 68, 69, 70]
def headT (t : List UInt8) : Int × List UInt8 × Nat :=
  if t.take 2 = [48, 98] then (1, [48, 49], 2) else if t.take 2 = [48, 120] then (2, hexB, 2) else if t = [48] then (4, [], 1) else if t.head? = some 48 then (3, [48, 49, 50, 51, 52, 53, 54, 55], 1) else (5, tenB, 0)
theorem head_eq (t : List UInt8) : int11_head.f (txt t) = some ((headT t).1, txt (headT t).2.1, ((headT t).2.2 : Int)) := by
  unfold int11_head.f headT
  rw [hasPrefix2]
  simp only [Option.bind_some]
  by_cases h1 : t.take 2 = [48, 98]
  · rw [decide_eq_true h1, if_pos rfl, if_pos h1]; rfl
  · rw [decide_eq_false h1, if_neg Bool.false_ne_true, if_neg h1, hasPrefix2]
    simp only [Option.bind_some]
    by_cases h2 : t.take 2 = [48, 120]
    · rw [decide_eq_true h2, if_pos rfl, if_pos h2]; rfl
    · rw [decide_eq_false h2, if_neg Bool.false_ne_true, if_neg h2, txt_toList]
      by_cases h3 : t = [48]
      · rw [if_pos h3, if_pos h3]; rfl
      · rw [if_neg h3, if_neg h3, hasPrefix1]
        simp only [Option.bind_some]
        by_cases h4 : t.head? = some 48
        · rw [decide_eq_true h4, if_pos rfl, if_pos h4, if_pos (by decide), if_pos (by decide)]; rfl
        · rw [decide_eq_false h4, if_neg Bool.false_ne_true, if_neg h4]; rfl
/-! ### rows -/
def dsOf (B : Nat) : List UInt8 := if B = 2 then [48, 49] else if B = 16 then hexB else if B = 8 then [48, 49, 50, 51, 52, 53, 54, 55] else tenB
theorem ds_all : ∀ n : Fin 256, (decide (indexByte (dsOf 2) (UInt8.ofNat n.val) < 0) = !decide (digV (UInt8.ofNat n.val) < 2)) ∧ (decide (indexByte (dsOf 16) (UInt8.ofNat n.val) < 0) = !decide (digV (UInt8.ofNat n.val) < 16)) ∧
    (decide (indexByte (dsOf 8) (UInt8.ofNat n.val) < 0) = !decide (digV (UInt8.ofNat n.val) < 8)) ∧ (decide (indexByte (dsOf 10) (UInt8.ofNat n.val) < 0) = !decide (digV (UInt8.ofNat n.val) < 10)) := by decide +kernel
theorem ds_in (B : Nat) (hB : B = 2 ∨ B = 16 ∨ B = 8 ∨ B = 10) (x : UInt8) : (indexByte (dsOf B) x < 0) ↔ ¬ digV x < B := by
  obtain ⟨a, b, c, d⟩ := ds_all ⟨x.toNat, x.toNat_lt⟩
  rw [show UInt8.ofNat x.toNat = x from UInt8.ofNat_toNat ..] at a b c d
  have go : ∀ {p q : Prop} [Decidable p] [Decidable q], decide p = !decide q → (p ↔ ¬ q) := fun {p q} _ _ h => by
    by_cases hq : q
    · rw [decide_eq_true hq] at h; exact ⟨fun hp => (by rw [decide_eq_true hp] at h; cases h), fun hn => absurd hq hn⟩
    · rw [decide_eq_false hq] at h; exact ⟨fun _ => hq, fun _ => of_decide_eq_true h⟩
  rcases hB with rfl | rfl | rfl | rfl
  · exact go a
  · exact go b
  · exact go c
  · exact go d
theorem row_eq (B : Nat) (hB : B = 2 ∨ B = 16 ∨ B = 8 ∨ B = 10) (f : Int) : ∀ (r : List UInt8) (sm : Bool), rowF f (dsOf B) sm r = if okG B r = true ∧ (sm = true ∨ sift r ≠ []) then f else 0
  | [], sm => by
    unfold rowF
    cases sm with
    | true => rw [if_pos rfl, if_pos ⟨rfl, .inl rfl⟩]
    | false => rw [if_neg Bool.false_ne_true, if_neg (by rintro ⟨_, h | h⟩; cases h; exact h rfl)]
  | x :: r, sm => by
    unfold rowF
    rw [okG_cons, sift_cons]
    by_cases h95 : x = 95
    · rw [if_pos h95, if_pos h95, row_eq B hB f r sm, beq_iff_eq.2 h95]; rfl
    · rw [if_neg h95, if_neg h95, beq_eq_false_iff_ne.2 h95, Bool.false_or]
      by_cases hd : digV x < B
      · rw [if_neg (fun q => (ds_in B hB x).1 q hd), row_eq B hB f r true, decide_eq_true hd, Bool.true_and]
        by_cases ho : okG B r = true
        · rw [if_pos ⟨ho, .inl rfl⟩, if_pos ⟨ho, .inr (by simp)⟩]
        · rw [if_neg (fun q => ho q.1), if_neg (fun q => ho q.1)]
      · rw [if_pos ((ds_in B hB x).2 hd), decide_eq_false hd, Bool.false_and, if_neg (fun q => by cases q.1)]
theorem row_bareL (B : Nat) (hB : B = 2 ∨ B = 16 ∨ B = 8 ∨ B = 10) (f : Int) (r : List UInt8) : rowF f (dsOf B) false r = match bareL B r with | some _ => f | none => 0 := by
  rw [row_eq B hB]
  unfold bareL
  by_cases h : okG B r = true ∧ sift r ≠ []
  · rw [if_pos h, if_pos ⟨h.1, .inr h.2⟩]
  · rw [if_neg h, if_neg]
    rintro ⟨h1, h2 | h2⟩
    · cases h2
    · exact h ⟨h1, h2⟩
/-! ### parts of sixty -/
theorem okD_one (c : UInt8) : okD [c] = isD' c := by
  rw [Bool.eq_iff_iff, okD_iff]
  unfold isD'
  rw [decide_eq_true_iff]
  exact ⟨fun h => h.1 c (by simp), fun h => ⟨fun x hx => by rw [List.mem_singleton.1 hx]; exact h, by simp⟩⟩
theorem okPart_one (c : UInt8) : okPart [c] = isD' c := by unfold okPart; rw [okD_one]; simp
theorem isD'_iff (c : UInt8) : isD' c = true ↔ 48 ≤ c.toNat ∧ c.toNat ≤ 57 := decide_eq_true_iff
theorem sixty_head {n : Nat} {x : UInt8} {r : List UInt8} (h : x ≠ 58) : sixtyF n (x :: r) = 0 := by
  cases n with
  | zero => rfl
  | succ n => rw [sixtyF, if_neg h]
theorem skip1_eq (a b : UInt8) (q : List UInt8) : skip1 (a :: b :: q) = if (48 ≤ a.toNat ∧ a.toNat ≤ 53) ∧ (48 ≤ b.toNat ∧ b.toNat ≤ 57) then b :: q else a :: b :: q := rfl
theorem sixty_all : ∀ (m n : Nat) (q : List UInt8), q.length ≤ m → q.length + 1 < n → sixtyF n (58 :: q) = if (cols q).all okPart = true then 6 else 0 := by
  intro m
  induction m with
  | zero =>
    intro n q hq hn
    have : q = [] := List.length_eq_zero_iff.1 (by omega)
    subst this
    obtain ⟨n, rfl⟩ : ∃ k, n = k + 1 := ⟨n - 1, by omega⟩
    rw [sixtyF, if_pos rfl]; rfl
  | succ m ih =>
    intro n q hq hn
    obtain ⟨n, rfl⟩ : ∃ k, n = k + 1 := ⟨n - 1, by omega⟩
    rw [sixtyF, if_pos rfl]
    -- what is left behind the first part
    obtain ⟨p, R, hqe, hR, hp, hc⟩ : ∃ p R, q = p ++ R ∧ (R = [] ∨ ∃ q', R = 58 :: q') ∧ 58 ∉ p ∧ cols q = p :: (match R with | [] => [] | _ :: q' => cols q') := by
      rcases span58 q with ⟨h1, h2⟩ | ⟨p, r, e, hp, hc, _⟩
      · exact ⟨q, [], by simp, .inl rfl, h1, h2⟩
      · exact ⟨p, 58 :: r, e, .inr ⟨r, rfl⟩, hp, hc⟩
    have rest : ∀ k, R.length < k → R.length ≤ m → sixtyF k R = if (match R with | [] => ([] : List (List UInt8)) | _ :: q' => cols q').all okPart = true then 6 else 0 := by
      intro k hk hm
      rcases hR with rfl | ⟨q', rfl⟩
      · cases k with
        | zero => simp at hk
        | succ k => rfl
      · exact ih k q' (by simp at hm; omega) (by simp at hk; omega)
    rw [hc, List.all_cons]
    match p, hp, hqe with
    | [], hp, hqe =>
      rw [List.nil_append] at hqe
      rw [show okPart [] = false from rfl, Bool.false_and, if_neg Bool.false_ne_true]
      rcases hR with rfl | ⟨q', rfl⟩
      · rw [hqe]; rfl
      · have hs : skip1 (58 :: q') = 58 :: q' := by
          cases q' with
          | nil => rfl
          | cons b q2 => rw [skip1_eq, if_neg (fun h => absurd h.1.2 (by decide))]
        rw [hqe, hs]
        dsimp only
        rw [if_neg (by decide)]
    | [c], hp, hqe =>
      have hs : skip1 (c :: R) = c :: R := by
        rcases hR with rfl | ⟨q', rfl⟩
        · rfl
        · rw [skip1_eq, if_neg (fun h => absurd h.2.2 (by decide))]
      have hl : q.length = 1 + R.length := by rw [hqe]; simp; omega
      rw [hqe, List.singleton_append, hs]
      dsimp only
      rw [okPart_one]
      cases hd : isD' c with
      | true => rw [if_pos ((isD'_iff c).1 hd), Bool.true_and]; exact rest n (by omega) (by omega)
      | false => rw [if_neg (fun h => by rw [(isD'_iff c).2 h] at hd; cases hd), Bool.false_and, if_neg Bool.false_ne_true]
    | a :: b :: p', hp, hqe =>
      have ha : a ≠ 58 := fun e => hp (by simp [e])
      have hb : b ≠ 58 := fun e => hp (by simp [e])
      have hl : q.length = 2 + p'.length + R.length := by rw [hqe]; simp; omega
      rw [hqe, List.cons_append, List.cons_append]
      by_cases hk : (48 ≤ a.toNat ∧ a.toNat ≤ 53) ∧ (48 ≤ b.toNat ∧ b.toNat ≤ 57)
      · have hs : skip1 (a :: b :: (p' ++ R)) = b :: (p' ++ R) := by rw [skip1_eq, if_pos hk]
        rw [hs]
        dsimp only
        rw [if_pos hk.2]
        cases p' with
        | nil =>
          have ho : okPart [a, b] = true := by
            unfold okPart
            rw [(okD_iff _).2 ⟨fun x hx => by
              rcases List.mem_cons.1 hx with rfl | hx
              · exact ⟨hk.1.1, by omega⟩
              · rw [List.mem_singleton.1 hx]; exact hk.2, by simp⟩, List.headD_cons, decide_eq_true hk.1.2]
            rfl
          rw [ho, Bool.true_and, List.nil_append]
          exact rest n (by omega) (by simp at hl; omega)
        | cons y p' =>
          have hy : y ≠ 58 := fun e => hp (by simp [e])
          have ho : okPart (a :: b :: y :: p') = false := by
            cases h : okPart (a :: b :: y :: p') with
            | false => rfl
            | true => have := okPart_len h; simp at this
          rw [ho, Bool.false_and, if_neg Bool.false_ne_true, List.cons_append, sixty_head hy]
      · have hs : skip1 (a :: b :: (p' ++ R)) = a :: b :: (p' ++ R) := by rw [skip1_eq, if_neg hk]
        have ho : okPart (a :: b :: p') = false := by
          cases h : okPart (a :: b :: p') with
          | false => rfl
          | true =>
            exfalso
            have hl2 := okPart_len h
            have hd := (okPart_digs h).1
            have h1 := hd a (by simp)
            have h2 := hd b (by simp)
            unfold okPart at h
            simp only [Bool.and_eq_true, Bool.or_eq_true, decide_eq_true_eq, beq_iff_eq, List.headD_cons, List.length_cons] at h
            have h53 : a.toNat ≤ 53 := by
              rcases h.2 with q | q
              · omega
              · exact of_decide_eq_true (p := a.toNat ≤ 53) q.2
            exact hk ⟨⟨h1.1, h53⟩, h2⟩
        rw [hs, ho, Bool.false_and, if_neg Bool.false_ne_true]
        dsimp only
        split
        · exact sixty_head hb
        · rfl
theorem sixW_some : ∀ (ps : List (List UInt8)) (n : Nat), (sixW ps n).isSome = ps.all okPart
  | [], n => rfl
  | p :: ps, n => by
    unfold sixW
    rw [List.all_cons]
    cases okPart p with
    | true => rw [if_pos rfl, sixW_some ps, Bool.true_and]
    | false => rw [if_neg Bool.false_ne_true, Bool.false_and]; rfl
theorem okG_append (B : Nat) (a b : List UInt8) : okG B (a ++ b) = (okG B a && okG B b) := by unfold okG; rw [List.all_append]
theorem okG58 (q : List UInt8) : okG 10 (58 :: q) = false := by rw [okG_cons, show ((58 : UInt8) == 95 || decide (digV 58 < 10)) = false by decide]; rfl
/-- behind the first digit -/
theorem more_eq : ∀ (r : List UInt8), (okG 10 r = true → moreF r = 5) ∧ (okG 10 r = false → (∃ p q, r = p ++ 58 :: q ∧ 58 ∉ p ∧ okG 10 p = true ∧ (cols q).all okPart = true) → moreF r = 6) ∧ (okG 10 r = false → (¬ ∃ p q, r = p ++ 58 :: q ∧ 58 ∉ p ∧ okG 10 p = true ∧ (cols q).all okPart = true) → moreF r = 0) := by
  intro r
  induction r with
  | nil => exact ⟨fun _ => rfl, fun h => (by cases h), fun h => (by cases h)⟩
  | cons x r ih =>
    obtain ⟨ih1, ih2, ih3⟩ := ih
    rw [moreF]
    by_cases h58 : x = 58
    · subst h58
      rw [if_pos rfl, okG58, sixty_all r.length (r.length + 2) r (Nat.le_refl _) (by omega)]
      refine ⟨fun h => (by cases h), fun _ h => ?_, fun _ h => ?_⟩
      · obtain ⟨p, q, e, hp, _, hq⟩ := h
        cases p with
        | nil => rw [List.nil_append] at e; rw [(List.cons.inj e).2, if_pos hq]
        | cons y p => rw [List.cons_append] at e; exact absurd (by rw [← (List.cons.inj e).1]; simp) hp
      · rw [if_neg]
        exact fun hc => h ⟨[], r, rfl, by simp, rfl, hc⟩
    · rw [if_neg h58, okG_cons]
      have shift : (x = 95 ∨ digV x < 10) → ((∃ p q, x :: r = p ++ 58 :: q ∧ 58 ∉ p ∧ okG 10 p = true ∧ (cols q).all okPart = true) ↔ (∃ p q, r = p ++ 58 :: q ∧ 58 ∉ p ∧ okG 10 p = true ∧ (cols q).all okPart = true)) := by
        intro hx
        constructor
        · rintro ⟨p, q, e, hp, ho, hq⟩
          cases p with
          | nil => rw [List.nil_append] at e; exact absurd (List.cons.inj e).1 h58
          | cons y p =>
            rw [List.cons_append] at e
            obtain ⟨_, e2⟩ := List.cons.inj e
            rw [okG_cons] at ho
            exact ⟨p, q, e2, fun h => hp (by simp [h]), (Bool.and_eq_true _ _ ▸ ho).2, hq⟩
        · rintro ⟨p, q, e, hp, ho, hq⟩
          refine ⟨x :: p, q, by rw [e]; rfl, fun h => ?_, ?_, hq⟩
          · rcases List.mem_cons.1 h with h | h
            · exact h58 h.symm
            · exact hp h
          · rw [okG_cons, ho, Bool.and_true]
            rcases hx with h | h
            · rw [beq_iff_eq.2 h]; rfl
            · rw [decide_eq_true h, Bool.or_true]
      by_cases hx : x ≠ 95 ∧ indexByte tenB x < 0
      · have hd := (ds_in 10 (by omega) x).1 hx.2
        rw [if_pos hx, beq_eq_false_iff_ne.2 hx.1, decide_eq_false hd, Bool.or_self, Bool.false_and]
        refine ⟨fun h => (by cases h), fun _ h => ?_, fun _ _ => rfl⟩
        obtain ⟨p, q, e, hp, ho, hq⟩ := h
        cases p with
        | nil => rw [List.nil_append] at e; exact absurd (List.cons.inj e).1 h58
        | cons y p =>
          rw [List.cons_append] at e
          obtain ⟨rfl, _⟩ := List.cons.inj e
          rw [okG_cons, beq_eq_false_iff_ne.2 hx.1, decide_eq_false hd] at ho
          cases ho
      · have hx' : x = 95 ∨ digV x < 10 := by
          by_cases h95 : x = 95
          · exact .inl h95
          · right
            by_cases hd : digV x < 10
            · exact hd
            · exact absurd ⟨h95, (ds_in 10 (by omega) x).2 hd⟩ hx
        have hb : (x == 95 || decide (digV x < 10)) = true := by
          rcases hx' with h | h
          · rw [beq_iff_eq.2 h]; rfl
          · rw [decide_eq_true h, Bool.or_true]
        rw [if_neg hx, hb, Bool.true_and]
        exact ⟨ih1, fun h1 h2 => ih2 h1 ((shift hx').1 h2), fun h1 h2 => ih3 h1 (fun q => h2 ((shift hx').2 q))⟩
end Go.Proofs.YtkijneohhilboaaDoor.IntSpec
