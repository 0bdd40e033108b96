/- Decimals read from their texts: the program's layer 5 and the reference read the same. No conditions but sizes. -/
import Derived.Test.YtddaggnomcoejaaDoorDecSpec2
import Derived.Lib.IndexMore
import Derived.Test.YtddaggnomcoejaaDoorPDx4
import Derived.Test.YtddaggnomcoejaaDoorPDx8
namespace Go.Proofs.YtddaggnomcoejaaDoor.DecSpec
set_option linter.unusedSimpArgs false
set_option linter.unusedVariables false
open Go.RowKit Go.Lib Go.Proofs.YtddaggnomcoejaaDoor.Room Go.Proofs.YtddaggnomcoejaaDoor.PD Go.Proofs.YtddaggnomcoejaaDoorW.PrintWords Go.Proofs.YtddaggnomcoejaaDoor.Aid Go.Proofs.YtddaggnomcoejaaDoor.Num Go.Proofs.YtddaggnomcoejaaDoor.BigFns Go.Proofs.YtddaggnomcoejaaDoor.BigQ Go.Proofs.YtddaggnomcoejaaDoor.RefBig
/-! ### a sign taken off -/
def cutSign (l : List UInt8) : Bool × List UInt8 := match l with | [] => (false, []) | x :: r => if x = 45 then (true, r) else (false, x :: r)
theorem CutPrefix_eq (l : List UInt8) : strings_CutPrefix.f (txt l) (⟨#[45]⟩ : ByteArray) = some (txt (cutSign l).2, (cutSign l).1) := by
  have key : big_parts.f (txt l) = some ((cutSign l).1, txt (cutSign l).2) := by
    cases l with
    | nil => exact parts_nil
    | cons x r =>
      unfold cutSign
      by_cases h : x = 45
      · subst h; exact parts_minus r
      · simp only [if_neg h]; exact parts_plain x r h
  unfold big_parts.f at key
  obtain ⟨⟨u, v⟩, hu, hv⟩ := Option.bind_eq_some_iff.1 key
  simp only [Option.some.injEq, Prod.mk.injEq] at hv
  rw [hu, hv.1, hv.2]
def trimPlus (l : List UInt8) : List UInt8 := match l with | [] => [] | x :: r => if x = 43 then r else x :: r
theorem TrimPlus_eq (l : List UInt8) : strings_TrimPrefix.f (txt l) (⟨#[43]⟩ : ByteArray) = some (txt (trimPlus l)) := by
  have h1 : (⟨#[43]⟩ : ByteArray).size = 1 := rfl
  unfold strings_TrimPrefix.f stringslite_TrimPrefix.f stringslite_HasPrefix.f
  rw [h1, txt_size]
  cases l with
  | nil => rfl
  | cons x r =>
    rw [if_pos (by rw [List.length_cons]; omega), if_pos (by omega), if_pos (by rw [List.length_cons]; omega)]
    simp only [Option.bind_some, Int.toNat_natCast]
    have hp : ((txt (x :: r)).extract 0 1).toList = [x] := by rw [Lib.toList_data, extract_take, txt_list]; rfl
    rw [hp, show (⟨#[43]⟩ : ByteArray).toList = [43] by rw [Lib.toList_data]]
    unfold trimPlus
    by_cases h : x = 43
    · subst h
      have e1 : (txt (43 :: r)).extract 1 (43 :: r).length = txt r := by rw [← txt_size]; exact extract_one 43 r
      rw [if_pos (by rfl), if_pos (by omega), if_pos (by rw [List.length_cons]; omega), e1]
      rfl
    · rw [if_neg (by intro q; exact h (List.cons.inj (beq_iff_eq.1 q)).1)]
      simp only [Option.bind_some, if_neg h]
/-! ### what a text may be -/
abbrev C4 := Int × Bool × List UInt8 × List UInt8
def cand (l : List UInt8) : C4 :=
  if (cutSign l).2 = [46, 105, 110, 102] then (1, (cutSign l).1, [], []) else if (cutSign l).2 = [46, 110, 97, 110] then (2, (cutSign l).1, [], []) else
  if 0 ≤ index (cutSign l).2 [46, 101] then (0, (cutSign l).1, (cutSign l).2.take (index (cutSign l).2 [46, 101]).toNat, trimPlus ((cutSign l).2.drop ((index (cutSign l).2 [46, 101]).toNat + 2))) else (0, (cutSign l).1, (cutSign l).2, [])
theorem cutSign_len (l : List UInt8) : (cutSign l).2.length ≤ l.length := by
  unfold cutSign
  cases l with
  | nil => simp
  | cons x r => by_cases h : x = 45 <;> simp [h]
theorem trimPlus_len (l : List UInt8) : (trimPlus l).length ≤ l.length := by
  unfold trimPlus
  cases l with
  | nil => simp
  | cons x r => by_cases h : x = 43 <;> simp [h]
theorem cand_len (l : List UInt8) : (cand l).2.2.1.length ≤ l.length ∧ (cand l).2.2.2.length ≤ l.length := by
  have h := cutSign_len l
  unfold cand
  split
  · simp
  · split
    · simp
    · split
      · have := trimPlus_len ((cutSign l).2.drop ((index (cutSign l).2 [46, 101]).toNat + 2))
        rw [List.length_drop] at this
        simp only [List.length_take]
        omega
      · simp only [List.length_nil]; omega
theorem Parse_cand (l : List UInt8) (hs : l.length ≤ 100000) (k : Nat) : dec_Parse.f k (txt l) = dec_Parse.j0 k (txt l) (cand l).1 (cand l).2.1 (txt (cand l).2.2.1) (txt (cand l).2.2.2) := by
  have h := cutSign_len l
  unfold dec_Parse.f
  rw [CutPrefix_eq]
  simp only [Option.bind_some, txt_toList]
  unfold cand
  by_cases h1 : (cutSign l).2 = [46, 105, 110, 102]
  · simp only [if_pos h1]; rfl
  · by_cases h2 : (cutSign l).2 = [46, 110, 97, 110]
    · simp only [if_neg h1, if_pos h2]; rfl
    · simp only [if_neg h1, if_neg h2]
      have hi : stringslite_Index.f (txt (cutSign l).2) (⟨#[46, 101]⟩ : ByteArray) = some (index (cutSign l).2 [46, 101]) := by
        unfold stringslite_Index.f
        rw [if_pos (by rw [txt_size]; omega)]
        rfl
      unfold strings_Cut.f stringslite_Cut.f
      rw [hi]
      simp only [Option.bind_some]
      have hz := txt_size (cutSign l).2
      have h2' : ((⟨#[46, 101]⟩ : ByteArray).size : Int) = 2 := rfl
      by_cases h3 : 0 ≤ index (cutSign l).2 [46, 101]
      · have hroom := index_room (cutSign l).2 [46, 101] h3
        simp only [List.length_cons, List.length_nil] at hroom
        obtain ⟨i, hie⟩ : ∃ i : Nat, index (cutSign l).2 [46, 101] = i := ⟨(index (cutSign l).2 [46, 101]).toNat, by omega⟩
        rw [hie] at h3 hroom ⊢
        have w1 : wrap64 ((i : Int) + 2) = ((i + 2 : Nat) : Int) := by rw [wrap_id (by omega) (by omega)]; omega
        rw [h2', w1, if_pos (by omega), if_pos (by omega), if_pos (by omega), if_pos (by omega), if_pos (by omega)]
        simp only [Option.bind_some, Int.toNat_natCast, if_pos h3]
        have e1 : (txt (cutSign l).2).extract (i + 2) (txt (cutSign l).2).size = txt ((cutSign l).2.drop (i + 2)) := extract_drop _ _
        have e2 : (txt (cutSign l).2).extract 0 i = txt ((cutSign l).2.take i) := by apply ext_list; rw [extract_take, txt_list, txt_list]
        rw [e1, e2, TrimPlus_eq]
        rfl
      · rw [if_neg (by omega)]
        simp only [Option.bind_some, if_neg h3]
        have := TrimPlus_eq []
        rw [show (⟨#[]⟩ : ByteArray) = txt [] from rfl, this]
        rfl
theorem Digs.no46 {d : List UInt8} (h : Digs d) : 46 ∉ d := fun q => absurd (h 46 q).1 (by decide)
theorem index_dot : ∀ (d rest : List UInt8), 46 ∉ d → index (d ++ 46 :: 101 :: rest) [46, 101] = d.length
  | [], rest, _ => by
    show index (46 :: 101 :: rest) [46, 101] = 0
    unfold index
    rw [if_pos (by rfl)]
  | x :: d, rest, h => by
    have hx : x ≠ 46 := fun q => h (by rw [q]; simp)
    have ih := index_dot d rest (fun q => h (by simp [q]))
    rw [List.cons_append]
    unfold index
    rw [if_neg (by
      intro q
      have : (46 == x && List.isPrefixOf [101] (d ++ 46 :: 101 :: rest)) = true := q
      rw [Bool.and_eq_true] at this
      exact hx (beq_iff_eq.1 this.1).symm), ih, if_neg (by intro q; have := beq_iff_eq.1 q; omega)]
    simp
theorem plusL_ne {c : UInt8} (h : c ≠ 45) (r : List UInt8) : plusL (c :: r) = [43] := by
  unfold plusL
  show (if some c = some 45 then [] else [43]) = [43]
  exact if_neg (fun q => h (Option.some.inj q))
theorem plus_trim {e : List UInt8} (h : IsNum e) : trimPlus (plusL e ++ e) = e := by
  obtain ⟨c, r, rfl⟩ := IsNum.cons h
  unfold plusL
  by_cases hc : c = 45
  · subst hc; rfl
  · show trimPlus ((if some c = some 45 then [] else [43]) ++ c :: r) = c :: r
    rw [if_neg (fun q => hc (Option.some.inj q))]; rfl
theorem cutSign_digs {d : List UInt8} (hd : Digs d) (hne : d ≠ []) (neg : Bool) (rest : List UInt8) : cutSign (signL neg ++ (d ++ rest)) = (neg, d ++ rest) := by
  cases d with
  | nil => exact absurd rfl hne
  | cons x r =>
    have hx : x ≠ 45 := fun q => absurd (hd x (by simp)).1 (by rw [q]; decide)
    cases neg
    · show cutSign (x :: (r ++ rest)) = _
      unfold cutSign
      simp only [if_neg hx]; rfl
    · show cutSign (45 :: (x :: (r ++ rest))) = _
      unfold cutSign
      rfl
/-- the candidate of a decimal's text is that decimal -/
theorem cand_print {K : Int} {neg : Bool} {d e : List UInt8} (h : goodD K neg d e) : cand (printL K neg d e) = (K, neg, d, e) := by
  rcases h.kinds with h0 | ⟨h1, hd0, he0⟩ | ⟨h2, hn, hd0, he0⟩
  · obtain ⟨hd, hne, hn⟩ := h.zero h0
    subst h0
    have hp : printL 0 neg d e = signL neg ++ (d ++ 46 :: 101 :: (plusL e ++ e)) := by
      unfold printL
      rw [if_neg (by decide), if_neg (by decide)]
      simp [List.append_assoc]
    have hc := cutSign_digs hd hne neg (46 :: 101 :: (plusL e ++ e))
    have hno : ∀ t, d ++ 46 :: 101 :: (plusL e ++ e) ≠ 46 :: t := by
      intro t q
      cases d with
      | nil => exact hne rfl
      | cons x r => exact absurd (hd x (by simp)).1 (by rw [(List.cons.inj q).1]; decide)
    have hi := index_dot d (plusL e ++ e) (Digs.no46 hd)
    unfold cand
    rw [hp, hc]
    simp only
    rw [if_neg (hno _), if_neg (hno _), hi, if_pos (by omega), Int.toNat_natCast, List.take_left' rfl]
    have : (d ++ 46 :: 101 :: (plusL e ++ e)).drop (d.length + 2) = plusL e ++ e := by
      rw [List.drop_append]
      simp
    rw [this, plus_trim hn]
  · subst h1 hd0 he0
    cases neg <;> rfl
  · subst h2 hn hd0 he0
    rfl
/-- what a text is read as -/
def parseT (l : List UInt8) (r : D5) : Prop :=
  (∃ K neg d e, goodD K neg d e ∧ l = printL K neg d e ∧ r = (K, neg, txt d, txt e, true)) ∨ ((∀ K neg d e, goodD K neg d e → l ≠ printL K neg d e) ∧ r = zeroD)
theorem parseT_one {l : List UInt8} {r r' : D5} (h : parseT l r) (h' : parseT l r') : r = r' := by
  rcases h with ⟨K, neg, d, e, g, hl, hr⟩ | ⟨hn, hr⟩
  · rcases h' with ⟨K', neg', d', e', g', hl', hr'⟩ | ⟨hn', _⟩
    · have h1 := cand_print g
      have h2 := cand_print g'
      rw [← hl] at h1
      rw [← hl', h1] at h2
      simp only [Prod.mk.injEq] at h2
      rw [hr, hr', h2.1, h2.2.1, h2.2.2.1, h2.2.2.2]
    · exact absurd hl (hn' _ _ _ _ g)
  · rcases h' with ⟨K', neg', d', e', g', hl', _⟩ | ⟨_, hr'⟩
    · exact absurd hl' (hn _ _ _ _ g')
    · rw [hr, hr']
theorem Parse_any (l : List UInt8) (hs : l.length ≤ 10000) (k : Nat) (hk : 11000 ≤ k) : ∃ r, dec_Parse.f k (txt l) = some r ∧ parseT l r := by
  obtain ⟨k, rfl⟩ : ∃ j, k = j + 1 := ⟨k - 1, by omega⟩
  rw [Parse_cand l (by omega)]
  have hc := cand_len l
  obtain ⟨⟨K, neg, d, e⟩, hcd⟩ : ∃ c, cand l = c := ⟨_, rfl⟩
  rw [hcd] at hc ⊢
  simp only at hc ⊢
  simp only [dec_Parse.j0]
  obtain ⟨b, hb, hb2⟩ := Good_any K neg d e (by omega) (by omega) k (by omega) (by omega)
  obtain ⟨p1, p2⟩ := Print_any K neg d e (by omega) (by omega) k (by omega) (by omega)
  rw [hb]
  simp only [Option.bind_some]
  have fails : (¬ (goodD K neg d e ∧ l = printL K neg d e)) → parseT l zeroD := by
    intro q
    refine .inr ⟨fun K' neg' d' e' g' hl' => ?_, rfl⟩
    have h2 := cand_print g'
    rw [← hl', hcd] at h2
    simp only [Prod.mk.injEq] at h2
    obtain ⟨rfl, rfl, rfl, rfl⟩ := h2
    exact q ⟨g', hl'⟩
  cases b with
  | false => exact ⟨zeroD, rfl, fails (fun q => by have := hb2.2 q.1; cases this)⟩
  | true =>
    have hg := hb2.1 rfl
    rw [if_pos rfl, p1 hg]
    simp only [Option.bind_some, txt_toList]
    by_cases he : printL K neg d e = l
    · rw [if_pos he]
      exact ⟨_, rfl, .inl ⟨K, neg, d, e, hg, he.symm, rfl⟩⟩
    · rw [if_neg he]
      exact ⟨zeroD, rfl, fails (fun q => he q.2.symm)⟩
/-! ### the reference -/
theorem split46 : ∀ t : List UInt8, 46 ∉ t ∨ ∃ a r, t = a ++ 46 :: r ∧ 46 ∉ a
  | [] => .inl (by simp)
  | x :: t => by
    by_cases h : x = 46
    · exact .inr ⟨[], t, by rw [h]; rfl, by simp⟩
    · rcases split46 t with q | ⟨a, r, e, q⟩
      · exact .inl (by simp [q, Ne.symm h])
      · exact .inr ⟨x :: a, r, by rw [e]; rfl, by simp [q, Ne.symm h]⟩
theorem ne46 {x : UInt8} (h : x ≠ 46) : ¬ (x.toNat : Int) = 46 := fun e => h (UInt8.toNat_inj.1 (by have : (46 : UInt8).toNat = 46 := rfl; omega))
theorem rParse_l0_dot (a r : List UInt8) (ha : 46 ∉ a) (hs : (a ++ 46 :: r).length ≤ 10000) (K : Int) (neg : Bool) (d e : ByteArray) (R : D5) (M : Nat) (hR : ∀ k, M ≤ k → targumref4_Parse.j3 k (txt (a ++ 46 :: r)) (a.length : Int) K neg d e = some R) : ∀ (n i k : Nat), i + n = a.length → n + M + 1 ≤ k → targumref4_Parse.l0 k (txt (a ++ 46 :: r)) i K neg d e = some R
  | 0, i, k, hi, hk => by
    obtain ⟨k, rfl⟩ : ∃ j, k = j + 1 := ⟨k - 1, by omega⟩
    have hl : (a ++ 46 :: r).length = a.length + (r.length + 1) := by rw [List.length_append, List.length_cons]
    have hie : i = a.length := by omega
    subst hie
    have hb : bt (txt (a ++ 46 :: r)) (a.length : Int) = 46 := by rw [bt_nat, txt_list, ba_append_right _ (Nat.le_refl _), Nat.sub_self]; rfl
    simp only [targumref4_Parse.l0]
    rw [txt_size, hb, if_pos (by omega), if_pos (by omega), if_pos rfl]
    exact hR k (by omega)
  | n + 1, i, k, hi, hk => by
    obtain ⟨k, rfl⟩ : ∃ j, k = j + 1 := ⟨k - 1, by omega⟩
    have hl : (a ++ 46 :: r).length = a.length + (r.length + 1) := by rw [List.length_append, List.length_cons]
    have hlt : i < a.length := by omega
    have hb : bt (txt (a ++ 46 :: r)) (i : Int) = (a[i].toNat : Int) := by
      rw [bt_nat, txt_list, ba_append_left _ hlt]
      unfold ba
      rw [List.getD_eq_getElem?_getD, List.getElem?_eq_getElem hlt]; rfl
    have hx : a[i] ≠ 46 := fun q => ha (by rw [← q]; exact List.getElem_mem hlt)
    simp only [targumref4_Parse.l0]
    rw [txt_size, hb, if_pos (by omega), if_pos (by omega), if_neg (ne46 hx), wrap_id (by omega) (by omega), show (i : Int) + 1 = ((i + 1 : Nat) : Int) by omega]
    exact rParse_l0_dot a r ha hs K neg d e R M hR n (i + 1) k (by omega) (by omega)
theorem rParse_l0_no (a : List UInt8) (ha : 46 ∉ a) (hs : a.length ≤ 10000) (K : Int) (neg : Bool) (d e : ByteArray) : ∀ (n i k : Nat), i + n = a.length → n + 5 ≤ k → targumref4_Parse.l0 k (txt a) i K neg d e = some zeroD
  | 0, i, k, hi, hk => by
    obtain ⟨k, rfl⟩ : ∃ j, k = j + 3 := ⟨k - 3, by omega⟩
    simp only [targumref4_Parse.l0, targumref4_Parse.j3, targumref4_Parse.j4]
    rw [txt_size, if_neg (by omega), wrap_id (by omega) (by omega), if_pos (by omega)]
    first | rfl | (rw [if_pos True.intro]; rfl)
  | n + 1, i, k, hi, hk => by
    obtain ⟨k, rfl⟩ : ∃ j, k = j + 1 := ⟨k - 1, by omega⟩
    have hlt : i < a.length := by omega
    have hx : a[i] ≠ 46 := fun q => ha (by rw [← q]; exact List.getElem_mem hlt)
    simp only [targumref4_Parse.l0]
    rw [txt_size, bt_at_ hlt, if_pos (by omega), if_pos (by omega), if_neg (ne46 hx), wrap_id (by omega) (by omega), show (i : Int) + 1 = ((i + 1 : Nat) : Int) by omega]
    exact rParse_l0_no a ha hs K neg d e n (i + 1) k (by omega) (by omega)
/-- what stands behind the point of a decimal that may be -/
def tailT (neg : Bool) (a r : List UInt8) (R : D5) : Prop :=
  (∃ e, goodD 0 neg a e ∧ r = 101 :: (plusL e ++ e) ∧ R = (0, neg, txt a, txt e, true)) ∨ ((∀ e, goodD 0 neg a e → r ≠ 101 :: (plusL e ++ e)) ∧ R = zeroD)
theorem bt_off (a r : List UInt8) (j : Nat) : bt (txt (a ++ 46 :: r)) ((a.length + (j + 1) : Nat) : Int) = ba r j := by
  rw [bt_nat, txt_list, ba_append_right _ (by omega), show a.length + (j + 1) - a.length = j + 1 by omega]
  rfl
theorem drop_off (a r : List UInt8) (j : Nat) : (a ++ 46 :: r).drop (a.length + (j + 1)) = r.drop j := by
  rw [List.drop_append, List.drop_of_length_le (by omega)]
  rw [show a.length + (j + 1) - a.length = j + 1 by omega]
  rfl
theorem plus_cases {e : List UInt8} (h : IsNum e) : (∃ r, e = 45 :: r ∧ r ≠ [] ∧ plusL e ++ e = 45 :: r) ∨ (∃ c r, e = c :: r ∧ c ≠ 45 ∧ plusL e ++ e = 43 :: e) := by
  obtain ⟨c, r, he⟩ := IsNum.cons h
  by_cases hc : c = 45
  · left
    subst hc
    refine ⟨r, he, ?_, by rw [he]; rfl⟩
    intro q
    rw [he, q] at h
    rcases h.cases with z | z | ⟨d, z, hd⟩
    · exact absurd (List.cons.inj z).1 (by decide)
    · exact absurd (z.1 45 (by simp)).1 (by decide)
    · obtain ⟨_, x, r', z', _⟩ := hd
      rw [← (List.cons.inj z).2] at z'
      cases z'
  · right
    refine ⟨c, r, he, hc, ?_⟩
    have : plusL e = [43] := by rw [he]; exact plusL_ne hc r
    rw [this]; rfl
theorem rParse_j3 (neg : Bool) (a r : List UInt8) (hs : (a ++ 46 :: r).length ≤ 10000) (k : Nat) (hk : 11000 ≤ k) : ∃ R, targumref4_Parse.j3 k (txt (a ++ 46 :: r)) (a.length : Int) 0 neg ⟨#[]⟩ ⟨#[]⟩ = some R ∧ tailT neg a r R := by
  obtain ⟨k, rfl⟩ : ∃ j, k = j + 2 := ⟨k - 2, by omega⟩
  have hl : (a ++ 46 :: r).length = a.length + (r.length + 1) := by rw [List.length_append, List.length_cons]
  have hz := txt_size (a ++ 46 :: r)
  have j4t : targumref4_Parse.j4 (k + 1) (txt (a ++ 46 :: r)) (a.length : Int) true 0 neg ⟨#[]⟩ ⟨#[]⟩ = some zeroD := by simp only [targumref4_Parse.j4, if_true]; rfl
  have w1 : wrap64 ((a.length : Int) + 1) = ((a.length + (0 + 1) : Nat) : Int) := by rw [wrap_id (by omega) (by omega)]; omega
  have w2 : wrap64 ((a.length : Int) + 2) = ((a.length + (1 + 1) : Nat) : Int) := by rw [wrap_id (by omega) (by omega)]; omega
  have w3 : wrap64 ((a.length : Int) + 3) = ((a.length + (2 + 1) : Nat) : Int) := by rw [wrap_id (by omega) (by omega)]; omega
  simp only [targumref4_Parse.j3]
  rw [wrap_id (x := ((txt (a ++ 46 :: r)).size : Int) - (a.length : Int)) (by omega) (by omega)]
  by_cases h4 : r.length < 3
  · rw [if_pos (by omega)]
    refine ⟨zeroD, j4t, .inr ⟨fun e g q => ?_, rfl⟩⟩
    obtain ⟨_, _, hn⟩ := g.zero rfl
    rcases plus_cases hn with ⟨r', _, hr', hp⟩ | ⟨c, r', he, _, hp⟩
    · have := List.length_pos_iff.2 hr'
      rw [q, hp] at h4; simp only [List.length_cons] at h4; omega
    · rw [q, hp, he] at h4; simp only [List.length_cons] at h4; omega
  · rw [if_neg (by omega)]
    obtain ⟨c0, c1, c2, r3, hr⟩ : ∃ c0 c1 c2 r3, r = c0 :: c1 :: c2 :: r3 := by
      match r, h4 with
      | c0 :: c1 :: c2 :: r3, _ => exact ⟨c0, c1, c2, r3, rfl⟩
      | [], h | [_], h | [_, _], h => simp at h
    have b0 : bt (txt (a ++ 46 :: r)) ((a.length + (0 + 1) : Nat) : Int) = (c0.toNat : Int) := by rw [bt_off, hr]; rfl
    have b1 : bt (txt (a ++ 46 :: r)) ((a.length + (1 + 1) : Nat) : Int) = (c1.toNat : Int) := by rw [bt_off, hr]; rfl
    have rl : r.length = r3.length + 3 := by rw [hr]; rfl
    rw [w1, w2, b0, b1, if_pos (by omega), if_pos (by omega)]
    by_cases h0 : c0 = 101
    · subst h0
      rw [if_pos (show ((101 : UInt8).toNat : Int) = 101 from rfl), if_pos (by omega), if_pos (by omega)]
      have ext : (txt (a ++ 46 :: r)).extract 0 ((a.length : Int) : Int).toNat = txt a := by
        rw [Int.toNat_natCast]; apply ext_list; rw [extract_take, txt_list, txt_list, List.take_left' rfl]
      by_cases h1 : c1 = 43
      · subst h1
        rw [if_pos (show ((43 : UInt8).toNat : Int) = 43 from rfl)]
        have hdrop : (txt (a ++ 46 :: r)).extract ((a.length + (2 + 1) : Nat) : Int).toNat (txt (a ++ 46 :: r)).size = txt (c2 :: r3) := by
          rw [Int.toNat_natCast, extract_drop, drop_off, hr]; rfl
        obtain ⟨b, hb, hb2⟩ := Dec_any 0 neg a (c2 :: r3) (by omega) (by simp only [List.length_cons]; omega) k (by omega) (by simp only [List.length_cons]; omega)
        simp only [targumref4_Parse.j4, Bool.false_eq_true, if_false]
        rw [w2, w3, b1, if_pos (by omega), if_pos (by omega), if_pos (by omega), if_pos (by omega), if_pos (by omega), if_pos (show ((43 : UInt8).toNat : Int) = 43 from rfl), if_pos (by omega), if_pos (by omega), ext, hdrop, hb]
        simp only [Option.bind_some]
        have no : (¬ (goodD 0 neg a (c2 :: r3) ∧ c2 ≠ 45)) → tailT neg a r zeroD := by
          intro q
          refine .inr ⟨fun e g qe => q ?_, rfl⟩
          obtain ⟨_, _, hn⟩ := g.zero rfl
          rcases plus_cases hn with ⟨r', _, _, hp⟩ | ⟨c, r', he, hc, hp⟩
          · rw [hr, hp] at qe
            exact absurd (List.cons.inj (List.cons.inj qe).2).1 (by decide)
          · rw [hr, hp] at qe
            have e2 := (List.cons.inj (List.cons.inj qe).2).2
            rw [e2]
            rw [he] at e2
            exact ⟨g, by rw [(List.cons.inj e2).1]; exact hc⟩
        cases b with
        | false => exact ⟨zeroD, rfl, no (fun q => by have := hb2.2 q.1; cases this)⟩
        | true =>
          have hg := hb2.1 rfl
          rw [if_pos rfl, if_pos (by rw [txt_size, List.length_cons]; omega), bt_head]
          by_cases h45 : c2 = 45
          · subst h45
            rw [if_pos (show ((45 : UInt8).toNat : Int) = 45 from rfl)]
            exact ⟨zeroD, rfl, no (fun q => q.2 rfl)⟩
          · rw [if_neg (ne45 h45)]
            refine ⟨_, rfl, .inl ⟨c2 :: r3, hg, ?_, rfl⟩⟩
            have : plusL (c2 :: r3) = [43] := plusL_ne h45 r3
            rw [hr, this]; rfl
      · rw [if_neg (fun q => h1 (UInt8.toNat_inj.1 (by have : (43 : UInt8).toNat = 43 := rfl; omega)))]
        by_cases h2 : c1 = 45
        · subst h2
          rw [show (((45 : UInt8).toNat : Int) != 45) = false from rfl]
          have hdrop : (txt (a ++ 46 :: r)).extract ((a.length + (1 + 1) : Nat) : Int).toNat (txt (a ++ 46 :: r)).size = txt (45 :: c2 :: r3) := by
            rw [Int.toNat_natCast, extract_drop, drop_off, hr]; rfl
          obtain ⟨b, hb, hb2⟩ := Dec_any 0 neg a (45 :: c2 :: r3) (by omega) (by simp only [List.length_cons]; omega) k (by omega) (by simp only [List.length_cons]; omega)
          simp only [targumref4_Parse.j4, Bool.false_eq_true, if_false]
          rw [w2, b1, if_pos (by omega), if_pos (by omega), if_pos (by omega), if_pos (by omega), if_pos (by omega), if_neg (by decide), ext, hdrop, hb]
          simp only [Option.bind_some]
          cases b with
          | false =>
            refine ⟨zeroD, rfl, .inr ⟨fun e g qe => ?_, rfl⟩⟩
            obtain ⟨_, _, hn⟩ := g.zero rfl
            rcases plus_cases hn with ⟨r', he, _, hp⟩ | ⟨c, r', he, hc, hp⟩
            · rw [hr, hp, ← he] at qe
              rw [(List.cons.inj qe).2] at hb2
              have := hb2.2 g
              cases this
            · rw [hr, hp] at qe
              exact absurd (List.cons.inj (List.cons.inj qe).2).1 (by decide)
          | true =>
            refine ⟨_, rfl, .inl ⟨45 :: c2 :: r3, hb2.1 rfl, ?_, rfl⟩⟩
            rw [hr]; rfl
        · have : ((c1.toNat : Int) != 45) = true := bne_iff_ne.2 (ne45 h2)
          rw [this]
          refine ⟨zeroD, j4t, .inr ⟨fun e g qe => ?_, rfl⟩⟩
          obtain ⟨_, _, hn⟩ := g.zero rfl
          rcases plus_cases hn with ⟨r', _, _, hp⟩ | ⟨c, r', he, hc, hp⟩
          · rw [hr, hp] at qe
            exact h2 (List.cons.inj (List.cons.inj qe).2).1
          · rw [hr, hp] at qe
            exact h1 (List.cons.inj (List.cons.inj qe).2).1
    · rw [if_neg (fun q => h0 (UInt8.toNat_inj.1 (by have : (101 : UInt8).toNat = 101 := rfl; omega)))]
      refine ⟨zeroD, j4t, .inr ⟨fun e g qe => ?_, rfl⟩⟩
      rw [hr] at qe
      exact h0 (List.cons.inj qe).1
theorem app46 {a a' r r' : List UInt8} (h : a ++ 46 :: r = a' ++ 46 :: r') (ha : 46 ∉ a) (ha' : 46 ∉ a') : a = a' ∧ r = r' := by
  induction a generalizing a' with
  | nil =>
    cases a' with
    | nil => exact ⟨rfl, (List.cons.inj h).2⟩
    | cons x t => exact absurd (by rw [(List.cons.inj h).1]; simp) ha'
  | cons y t ih =>
    cases a' with
    | nil => exact absurd (by rw [(List.cons.inj h).1]; simp) ha
    | cons x t' =>
      obtain ⟨e1, e2⟩ := List.cons.inj h
      obtain ⟨e3, e4⟩ := ih e2 (fun q => ha (by simp [q])) (fun q => ha' (by simp [q]))
      exact ⟨by rw [e1, e3], e4⟩
theorem rParse_l0 (neg : Bool) (t : List UInt8) (hs : t.length ≤ 9000) (k : Nat) (hk : 30000 ≤ k) : ∃ R, targumref4_Parse.l0 k (txt t) 0 0 neg ⟨#[]⟩ ⟨#[]⟩ = some R ∧
    ((∃ d e, goodD 0 neg d e ∧ t = d ++ 46 :: 101 :: (plusL e ++ e) ∧ R = (0, neg, txt d, txt e, true)) ∨ ((∀ d e, goodD 0 neg d e → t ≠ d ++ 46 :: 101 :: (plusL e ++ e)) ∧ R = zeroD)) := by
  rcases split46 t with h | ⟨a, r, rfl, ha⟩
  · have := rParse_l0_no t h (by omega) 0 neg ⟨#[]⟩ ⟨#[]⟩ t.length 0 k (by omega) (by omega)
    refine ⟨zeroD, this, .inr ⟨fun d e g q => h ?_, rfl⟩⟩
    rw [q]; simp
  · obtain ⟨R, hR, hT⟩ := rParse_j3 neg a r (by omega) 11000 (Nat.le_refl _)
    have hal : a.length ≤ (a ++ 46 :: r).length := by rw [List.length_append]; omega
    have := rParse_l0_dot a r ha (by omega) 0 neg ⟨#[]⟩ ⟨#[]⟩ R 11000 (fun k hk => by
      have m := targumref4_Parse.mono_l
      exact at_rounds (g := fun k => targumref4_Parse.j3 k (txt (a ++ 46 :: r)) (a.length : Int) 0 neg ⟨#[]⟩ ⟨#[]⟩) (fun k => (m k).2.2.1 _ _ _ _ _ _) hk hR) a.length 0 k (by omega) (by omega)
    refine ⟨R, this, ?_⟩
    rcases hT with ⟨e, g, hr, hRe⟩ | ⟨hn, hRe⟩
    · exact .inl ⟨a, e, g, by rw [hr], hRe⟩
    · refine .inr ⟨fun d e g q => ?_, hRe⟩
      obtain ⟨e1, e2⟩ := app46 q ha (Digs.no46 (g.zero rfl).1)
      subst e1
      exact hn e g e2
theorem rParse_any (l : List UInt8) (hs : l.length ≤ 9000) (k : Nat) (hk : 31000 ≤ k) : ∃ r, targumref4_Parse.f k (txt l) = some r ∧ parseT l r := by
  obtain ⟨k, rfl⟩ : ∃ j, k = j + 2 := ⟨k - 2, by omega⟩
  unfold targumref4_Parse.f
  rw [txt_toList]
  by_cases h1 : l = [46, 110, 97, 110]
  · rw [if_pos h1]
    exact ⟨_, rfl, .inl ⟨2, false, [], [], .inr (.inr (.inr ⟨rfl, rfl, rfl, rfl⟩)), h1, rfl⟩⟩
  · rw [if_neg h1]
    by_cases h2 : l = [46, 105, 110, 102]
    · rw [if_pos h2]
      exact ⟨_, rfl, .inl ⟨1, false, [], [], .inr (.inr (.inl ⟨rfl, rfl, rfl⟩)), h2, rfl⟩⟩
    · rw [if_neg h2]
      by_cases h3 : l = [45, 46, 105, 110, 102]
      · rw [if_pos h3]
        exact ⟨_, rfl, .inl ⟨1, true, [], [], .inr (.inr (.inl ⟨rfl, rfl, rfl⟩)), h3, rfl⟩⟩
      · rw [if_neg h3]
        have only0 : ∀ {K neg d e}, goodD K neg d e → l = printL K neg d e → K = 0 := by
          intro K neg d e g q
          rcases g.kinds with h0 | ⟨k1, hd0, he0⟩ | ⟨k2, hn, hd0, he0⟩
          · exact h0
          · subst k1 hd0 he0
            cases neg
            · exact absurd q h2
            · exact absurd q h3
          · subst k2 hn hd0 he0
            exact absurd q h1
        have print0 : ∀ (neg : Bool) (d e : List UInt8), printL 0 neg d e = signL neg ++ (d ++ 46 :: 101 :: (plusL e ++ e)) := by
          intro neg d e
          unfold printL
          rw [if_neg (by decide), if_neg (by decide)]
          simp [List.append_assoc]
        have fin : ∀ (neg : Bool) (t : List UInt8) (R : D5), cutSign l = (neg, t) → (l = signL neg ++ t) →
            ((∃ d e, goodD 0 neg d e ∧ t = d ++ 46 :: 101 :: (plusL e ++ e) ∧ R = (0, neg, txt d, txt e, true)) ∨ ((∀ d e, goodD 0 neg d e → t ≠ d ++ 46 :: 101 :: (plusL e ++ e)) ∧ R = zeroD)) → parseT l R := by
          intro neg t R hc hl hR
          rcases hR with ⟨d, e, g, ht, hr⟩ | ⟨hn, hr⟩
          · exact .inl ⟨0, neg, d, e, g, by rw [print0, hl, ht], hr⟩
          · refine .inr ⟨fun K neg' d e g q => ?_, hr⟩
            have hK := only0 g q
            subst hK
            obtain ⟨hd, hne, _⟩ := g.zero rfl
            have hc2 := cutSign_digs hd hne neg' (46 :: 101 :: (plusL e ++ e))
            rw [← print0, ← q, hc] at hc2
            simp only [Prod.mk.injEq] at hc2
            obtain ⟨e1, e2⟩ := hc2
            subst e1
            exact hn d e g e2
        have j1 : ∀ neg t, targumref4_Parse.j1 (k + 1) (txt t) 0 neg ⟨#[]⟩ ⟨#[]⟩ = targumref4_Parse.l0 k (txt t) 0 0 neg ⟨#[]⟩ ⟨#[]⟩ := fun neg t => by simp only [targumref4_Parse.j1]
        cases l with
        | nil =>
          rw [if_neg (by rw [txt_size]; simp)]
          simp only [targumref4_Parse.j0, Bool.false_eq_true, if_false]
          rw [j1]
          obtain ⟨R, hR, hT⟩ := rParse_l0 false [] (by simp) k (by omega)
          exact ⟨R, hR, fin false [] R rfl rfl hT⟩
        | cons x r =>
          have hz : ((txt (x :: r)).size : Int) = r.length + 1 := by rw [txt_size]; rfl
          rw [if_pos (by omega), if_pos (by omega), bt_head]
          by_cases hx : x = 45
          · subst hx
            rw [show (((45 : UInt8).toNat : Int) == 45) = true from rfl]
            simp only [targumref4_Parse.j0, if_true]
            rw [if_pos (by omega), extract_one, j1]
            obtain ⟨R, hR, hT⟩ := rParse_l0 true r (by simp only [List.length_cons] at hs; omega) k (by omega)
            exact ⟨R, hR, fin true r R rfl rfl hT⟩
          · rw [beq_eq_false_iff_ne.2 (ne45 hx)]
            simp only [targumref4_Parse.j0, Bool.false_eq_true, if_false]
            rw [j1]
            obtain ⟨R, hR, hT⟩ := rParse_l0 false (x :: r) (by omega) k (by omega)
            exact ⟨R, hR, fin false (x :: r) R (by unfold cutSign; simp only [if_neg hx]) rfl hT⟩
theorem parse_both (s : ByteArray) (hs : s.size ≤ 9000) (k : Nat) (hk : 31000 ≤ k) : ∃ r, dec_Parse.f k s = some r ∧ targumref4_Parse.f k s = some r ∧ parseT s.data.toList r := by
  have hz : s.data.toList.length = s.size := (Lib.size_eq s).symm
  obtain ⟨r, h1, h2⟩ := Parse_any s.data.toList (by omega) k (by omega)
  obtain ⟨r', h3, h4⟩ := rParse_any s.data.toList (by omega) k (by omega)
  rw [← of_list] at h1 h3
  rw [← parseT_one h2 h4] at h3
  exact ⟨r, h1, h3, h2⟩
end Go.Proofs.YtddaggnomcoejaaDoor.DecSpec
