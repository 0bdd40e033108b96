/- The pure law BrkJoined: texts without breaks, put together with breaks of one kind, are just these lines. No conditions. -/
import Derived.Test.YtkphlddgfmgogaaDoorRefBrk1
import Derived.Test.YtkphlddgfmgogaaDoorPJx7
namespace Go.Proofs.YtkphlddgfmgogaaDoor.Pure
set_option linter.unusedSimpArgs false
set_option linter.unusedVariables false
open Go.RowKit Go.Proofs.YtkphlddgfmgogaaDoor.PJ Go.Proofs.YtkphlddgfmgogaaDoorW.PrintWords Go.Proofs.YtkphlddgfmgogaaDoor.Aid Go.Proofs.YtkphlddgfmgogaaDoor.BrkFns Go.Proofs.YtkphlddgfmgogaaDoor.RefBrk1

theorem joined_known (k : Nat) (hk : 60 ≤ k) : targumlaw2_known.f k = some true := at_rounds targumlaw2_known.mono hk (by decide +kernel)

/-- no break: none begins here either once more stands behind, whose first byte is none that goes on -/
theorem brkW_more (v : Int) (l m : List UInt8) (hl : l ≠ []) (h : brkW 11 l = 0) (hm : ba m 0 ≠ 128 ∧ ba m 0 ≠ 133 ∧ ba m 0 ≠ 168 ∧ ba m 0 ≠ 169) : brkW v (l ++ m) = 0 := by
  rw [brkW_num] at h ⊢
  have hp := List.length_pos_iff.2 hl
  have e0 : ba (l ++ m) 0 = ba l 0 := ba_append_left m hp
  have e1 : ba (l ++ m) 1 = if 1 < l.length then ba l 1 else ba m 0 := by
    split
    · rename_i h; exact ba_append_left m h
    · rename_i h; rw [ba_append_right m (by omega), show 1 - l.length = 0 by omega]
  have e2 : ba (l ++ m) 2 = if 2 < l.length then ba l 2 else ba m (2 - l.length) := by
    split
    · rename_i h; exact ba_append_left m h
    · rename_i h; exact ba_append_right m (by omega)
  have hC : ¬ (ba l 0 = 13 ∨ ba l 0 = 10) := fun c => by
    by_cases hA : (11 : Int) = 11 ∧ 3 ≤ l.length ∧ ba l 0 = 226 ∧ ba l 1 = 128 ∧ (ba l 2 = 168 ∨ ba l 2 = 169)
    · omega
    · rw [if_neg hA] at h
      by_cases hB : ((11 : Int) = 11 ∧ 2 ≤ l.length ∧ ba l 0 = 194 ∧ ba l 1 = 133) ∨ (2 ≤ l.length ∧ ba l 0 = 13 ∧ ba l 1 = 10)
      · rw [if_pos hB] at h; exact absurd h (by decide)
      · rw [if_neg hB, if_pos c] at h; exact absurd h (by decide)
  have hB : ¬ (2 ≤ l.length ∧ ba l 0 = 194 ∧ ba l 1 = 133) := fun c => by
    rw [if_neg (by omega), if_pos (Or.inl ⟨rfl, c⟩)] at h
    exact absurd h (by decide)
  have hA : ¬ (3 ≤ l.length ∧ ba l 0 = 226 ∧ ba l 1 = 128 ∧ (ba l 2 = 168 ∨ ba l 2 = 169)) := fun c => by
    rw [if_pos ⟨rfl, c⟩] at h
    exact absurd h (by decide)
  rw [e0, if_neg, if_neg, if_neg hC]
  · rintro (⟨_, _, g0, g1⟩ | ⟨_, g0, g1⟩)
    · rw [e1] at g1
      split at g1
      · exact hB ⟨by omega, g0, g1⟩
      · exact hm.2.1 g1
    · exact hC (Or.inl g0)
  · rintro ⟨_, _, g0, g1, g2⟩
    rw [e1] at g1
    rw [e2] at g2
    split at g1
    · split at g2
      · exact hA ⟨by omega, g0, g1, g2⟩
      · rw [show 2 - l.length = 0 by omega] at g2
        rcases g2 with g2 | g2
        · exact hm.2.2.1 g2
        · exact hm.2.2.2 g2
    · exact hm.1 g1

/-- a list of bytes in which no break begins -/
def noBrk (t : List UInt8) : Prop := ∀ j < t.length, brkW 11 (t.drop j) = 0
/-- what may stand behind a break of this kind -/
def mayFollow (b rest : List UInt8) : Prop := b = [13] → ba rest 0 ≠ 10
/-- a break of this version, of one kind -/
structure IsBrk (v : Int) (b : List UInt8) : Prop where
  size : b.length ≤ 3
  pos : 0 < b.length
  first : ba b 0 ≠ 128 ∧ ba b 0 ≠ 133 ∧ ba b 0 ≠ 168 ∧ ba b 0 ≠ 169
  one : b = [13] → ba b 0 ≠ 10
  all : ∀ rest, mayFollow b rest → brkW v (b ++ rest) = b.length

theorem lns_one (v : Int) (b : List UInt8) (hb : IsBrk v b) (t : List UInt8) (ht : noBrk t) (rest : List UInt8) (hr : mayFollow b rest) : ∀ (d j n m : Nat) (a i : Int), j + d = t.length → ((t.drop j) ++ (b ++ rest)).length ≤ n → rest.length ≤ m →
    lns n v ((t.drop j) ++ (b ++ rest)) a i = ⟨a, i + d, i + d + b.length⟩ :: lns m v rest (i + d + b.length) (i + d + b.length)
  | 0, j, n, m, a, i, hj, hn, hm => by
    rw [List.drop_of_length_le (by omega), List.nil_append] at hn ⊢
    have hp := hb.pos
    obtain ⟨n, rfl⟩ : ∃ z, n = z + 1 := ⟨n - 1, by rw [List.length_append] at hn; omega⟩
    have hne : b ++ rest ≠ [] := fun e => by have := congrArg List.length e; rw [List.length_append, List.length_nil] at this; omega
    have hw := hb.all rest hr
    simp only [lns]
    rw [if_neg hne, if_neg (by rw [hw]; omega), hw, Int.toNat_natCast, List.drop_left]
    have e : i + ((0 : Nat) : Int) = i := by omega
    rw [e]
    congr 1
    exact lns_enough _ _ _ _ _ _ (by rw [List.length_append] at hn; omega) hm
  | d + 1, j, n, m, a, i, hj, hn, hm => by
    have hlt : j < t.length := by omega
    have hne : t.drop j ≠ [] := fun e => by have := congrArg List.length e; rw [List.length_drop, List.length_nil] at this; omega
    have hp := List.length_pos_iff.2 hne
    obtain ⟨n, rfl⟩ : ∃ z, n = z + 1 := ⟨n - 1, by rw [List.length_append] at hn; omega⟩
    have hne' : t.drop j ++ (b ++ rest) ≠ [] := fun e => by have := congrArg List.length e; rw [List.length_append, List.length_nil] at this; omega
    have hf : ba (b ++ rest) 0 = ba b 0 := ba_append_left rest hb.pos
    have hw : brkW v (t.drop j ++ (b ++ rest)) = 0 := brkW_more v _ _ hne (ht j hlt) (by rw [hf]; exact hb.first)
    have hd : (t.drop j ++ (b ++ rest)).drop 1 = t.drop (j + 1) ++ (b ++ rest) := by
      rw [List.drop_append_of_le_length (by omega), List.drop_drop]
    simp only [lns]
    rw [if_neg hne', if_pos hw, hd, lns_one v b hb t ht rest hr d (j + 1) n m a (i + 1) (by omega) (by rw [← hd, List.length_drop]; omega) hm]
    have e : i + 1 + (d : Int) = i + ((d + 1 : Nat) : Int) := by omega
    rw [e]

/-- what the law's loop has put together: its lines are what it wants, whatever may follow -/
def Good (v : Int) (b : List UInt8) (s : ByteArray) (want : List S27) : Prop :=
  ∀ rest, mayFollow b rest → ∀ n m : Nat, s.size + rest.length ≤ n → rest.length ≤ m → lns n v (s.data.toList ++ rest) 0 0 = want ++ lns m v rest s.size s.size
theorem Good.nil (v : Int) (b : List UInt8) : Good v b ⟨#[]⟩ [] := fun rest _ n m hn hm => by
  have e : (ByteArray.mk #[]).data.toList = [] := rfl
  rw [e, List.nil_append, List.nil_append]
  exact lns_enough n m v rest 0 0 (by omega) hm
theorem Good.snoc {v : Int} {b : ByteArray} (hb : IsBrk v b.data.toList) {s : ByteArray} {want : List S27} (h : Good v b.data.toList s want) (t : ByteArray) (ht : noBrk t.data.toList) (hf : b.data.toList = [13] → ba t.data.toList 0 ≠ 10) (X : S27)
    (hX : X = ⟨(s.size : Int), (s.size : Int) + t.size, (s.size : Int) + t.size + b.size⟩) : Good v b.data.toList ((s ++ t) ++ b) (want ++ [X]) := fun rest hr n m hn hm => by
  have hz : ((s ++ t) ++ b).size = s.size + t.size + b.size := by rw [ByteArray.size_append, ByteArray.size_append]
  rw [hz] at hn
  rw [append_list, append_list, List.append_assoc, List.append_assoc, List.append_assoc]
  have hbs : b.data.toList.length = b.size := (Lib.size_eq b).symm
  have hts : t.data.toList.length = t.size := (Lib.size_eq t).symm
  have hmf : mayFollow b.data.toList (t.data.toList ++ (b.data.toList ++ rest)) := fun e => by
    by_cases h0 : t.data.toList = []
    · rw [h0, List.nil_append, ba_append_left rest hb.pos]
      exact hb.one e
    · rw [ba_append_left _ (List.length_pos_iff.2 h0)]
      exact hf e
  have hlen : (t.data.toList ++ (b.data.toList ++ rest)).length = t.size + (b.size + rest.length) := by rw [List.length_append, List.length_append, hts, hbs]
  rw [h _ hmf n (t.size + (b.size + rest.length)) (by rw [hlen]; omega) (by rw [hlen]; exact Nat.le_refl _)]
  have := lns_one v _ hb _ ht rest hr t.size 0 (t.size + (b.size + rest.length)) m (s.size : Int) (s.size : Int) (by omega) (by rw [List.drop_zero, hlen]; exact Nat.le_refl _) hm
  rw [List.drop_zero] at this
  rw [this, hX, hbs, List.singleton_append, hz]
  have e : ((s.size + t.size + b.size : Nat) : Int) = (s.size : Int) + t.size + b.size := by omega
  rw [e]
theorem Good.lines {v : Int} {b : List UInt8} {s : ByteArray} {want : List S27} (h : Good v b s want) : lines v s = want := by
  have := h [] (fun _ => by decide) s.size 0 (by simp) (by simp)
  rw [List.append_nil] at this
  unfold BrkFns.lines
  rw [this]
  simp [lns]

/-! ### the six breaks -/
def kinds : List ByteArray := [⟨#[10]⟩, ⟨#[13]⟩, ⟨#[13, 10]⟩, ⟨#[194, 133]⟩, ⟨#[226, 128, 168]⟩, ⟨#[226, 128, 169]⟩]
theorem isBrk_of (v : Int) (l : List UInt8) (hs : l.length ≤ 3) (hp : 0 < l.length) (hf : ba l 0 ≠ 128 ∧ ba l 0 ≠ 133 ∧ ba l 0 ≠ 168 ∧ ba l 0 ≠ 169) (ho : l = [13] → ba l 0 ≠ 10) (ha : ∀ rest, mayFollow l rest → brkW v (l ++ rest) = l.length) : IsBrk v l := ⟨hs, hp, hf, ho, ha⟩
theorem kinds11 (p : Nat) (hp : p < 6) : IsBrk 11 (kinds.getD p ⟨#[]⟩).data.toList := by
  have h6 : p = 0 ∨ p = 1 ∨ p = 2 ∨ p = 3 ∨ p = 4 ∨ p = 5 := by omega
  rcases h6 with rfl | rfl | rfl | rfl | rfl | rfl
  · refine ⟨by decide, by decide, by decide, by decide, fun rest _ => ?_⟩
    show brkW 11 (10 :: rest) = 1
    rw [brkW_num, show ba (10 :: rest) 0 = 10 from rfl]; simp
  · refine ⟨by decide, by decide, by decide, by decide, fun rest hr => ?_⟩
    have h := hr rfl
    show brkW 11 (13 :: rest) = 1
    rw [brkW_num, show ba (13 :: rest) 0 = 13 from rfl, show ba (13 :: rest) 1 = ba rest 0 from rfl]; simp [h]
  · refine ⟨by decide, by decide, by decide, by decide, fun rest _ => ?_⟩
    show brkW 11 (13 :: 10 :: rest) = 2
    rw [brkW_num, show ba (13 :: 10 :: rest) 0 = 13 from rfl, show ba (13 :: 10 :: rest) 1 = 10 from rfl]; simp
  · refine ⟨by decide, by decide, by decide, by decide, fun rest _ => ?_⟩
    show brkW 11 (194 :: 133 :: rest) = 2
    rw [brkW_num, show ba (194 :: 133 :: rest) 0 = 194 from rfl, show ba (194 :: 133 :: rest) 1 = 133 from rfl]; simp
  · refine ⟨by decide, by decide, by decide, by decide, fun rest _ => ?_⟩
    show brkW 11 (226 :: 128 :: 168 :: rest) = 3
    rw [brkW_num, show ba (226 :: 128 :: 168 :: rest) 0 = 226 from rfl, show ba (226 :: 128 :: 168 :: rest) 1 = 128 from rfl, show ba (226 :: 128 :: 168 :: rest) 2 = 168 from rfl]; simp
  · refine ⟨by decide, by decide, by decide, by decide, fun rest _ => ?_⟩
    show brkW 11 (226 :: 128 :: 169 :: rest) = 3
    rw [brkW_num, show ba (226 :: 128 :: 169 :: rest) 0 = 226 from rfl, show ba (226 :: 128 :: 169 :: rest) 1 = 128 from rfl, show ba (226 :: 128 :: 169 :: rest) 2 = 169 from rfl]; simp
theorem kinds12 (p : Nat) (hp : p ≤ 2) : IsBrk 12 (kinds.getD p ⟨#[]⟩).data.toList := by
  have h6 : p = 0 ∨ p = 1 ∨ p = 2 := by omega
  rcases h6 with rfl | rfl | rfl
  · refine ⟨by decide, by decide, by decide, by decide, fun rest _ => ?_⟩
    show brkW 12 (10 :: rest) = 1
    rw [brkW_num, show ba (10 :: rest) 0 = 10 from rfl]; simp
  · refine ⟨by decide, by decide, by decide, by decide, fun rest hr => ?_⟩
    have h := hr rfl
    show brkW 12 (13 :: rest) = 1
    rw [brkW_num, show ba (13 :: rest) 0 = 13 from rfl, show ba (13 :: rest) 1 = ba rest 0 from rfl]; simp [h]
  · refine ⟨by decide, by decide, by decide, by decide, fun rest _ => ?_⟩
    show brkW 12 (13 :: 10 :: rest) = 2
    rw [brkW_num, show ba (13 :: 10 :: rest) 0 = 13 from rfl, show ba (13 :: 10 :: rest) 1 = 10 from rfl]; simp

/-! ### the law's loops -/
theorem rdOf_get (xs : List ByteArray) (i : Nat) (h : i < xs.length) : rdOf ByteArray.empty xs (i : Int) = xs[i] := by
  unfold rdOf
  rw [List.getD_eq_getElem?_getD, Int.toNat_natCast, List.getElem?_eq_getElem h]
  rfl
def need : Nat → Nat
  | 0 => 4000
  | d + 1 => need d + 100
theorem need_ge : ∀ d, 4000 ≤ need d
  | 0 => Nat.le_refl _
  | d + 1 => by have := need_ge d; show 4000 ≤ need d + 100; omega

/-- the loop over one text's bytes: a break there, and the law holds; else it goes on -/
theorem joined_l1 (xs : List ByteArray) (hxs : xs.length ≤ 10000000000000) (a1 : Int) (b s : ByteArray) (want : List S27) (i : Nat) (hi : i < xs.length) (ht : xs[i].size ≤ 50) (K : Nat) (hK : 30 ≤ K)
    (hw : want.length < 5864062014805) (hs : s.size ≤ 100000) (hb : b.size ≤ 3)
    (next : noBrk xs[i].data.toList → ∀ k, K ≤ k → targumlaw2_BrkJoined.l0 k xs a1 b ((s ++ xs[i]) ++ b) (want ++ [⟨(s.size : Int), (s.size : Int) + xs[i].size, (s.size : Int) + xs[i].size + b.size⟩]) ((i + 1 : Nat) : Int) = some true) :
    ∀ (d j k : Nat), j + d = xs[i].size → (∀ z < j, brkW 11 (xs[i].data.toList.drop z) = 0) → K + d + 1 ≤ k → targumlaw2_BrkJoined.l1 k xs a1 b s want (i : Int) (j : Int) = some true
  | 0, j, k, hj, hz, hk => by
    obtain ⟨k, rfl⟩ : ∃ z, k = z + 1 := ⟨k - 1, by omega⟩
    have hsz : (s ++ xs[i]).size = s.size + xs[i].size := ByteArray.size_append
    simp only [targumlaw2_BrkJoined.l1]
    rw [rdOf_get xs i hi, if_pos (by omega), if_pos (by omega), if_neg (by omega), if_pos hw, if_pos (by omega), if_pos (by omega), wrap_id (by omega) (by omega), wrap_id (by omega) (by omega), wrap_id (by omega) (by omega)]
    have := next (fun z hz' => hz z (by rw [← Lib.size_eq] at hz'; omega)) k (by omega)
    rw [show ((i + 1 : Nat) : Int) = (i : Int) + 1 by omega] at this
    exact this
  | d + 1, j, k, hj, hz, hk => by
    obtain ⟨k, rfl⟩ : ∃ z, k = z + 1 := ⟨k - 1, by omega⟩
    simp only [targumlaw2_BrkJoined.l1]
    rw [rdOf_get xs i hi, if_pos (by omega), if_pos (by omega), if_pos (by omega), RefBreak_eq k (by omega) 11 xs[i] (by omega), if_pos ⟨by omega, by omega⟩]
    simp only [Option.bind_some, Int.toNat_natCast]
    by_cases hg : brkW 11 (xs[i].data.toList.drop j) > 0
    · rw [if_pos hg]
    · rw [if_neg hg, wrap_id (by omega) (by omega)]
      have h0 : brkW 11 (xs[i].data.toList.drop j) = 0 := by have := (brkW_range 11 (xs[i].data.toList.drop j)).1; omega
      have := joined_l1 xs hxs a1 b s want i hi ht K hK hw hs hb next d (j + 1) k (by omega) (fun z hz' => by
        by_cases e : z = j
        · rw [e]; exact h0
        · exact hz z (by omega)) (by omega)
      rw [show ((j + 1 : Nat) : Int) = (j : Int) + 1 by omega] at this
      exact this

theorem joined_l0 (xs : List ByteArray) (hxs : xs.length ≤ 10000000000000) (hz : ∀ x ∈ xs, x.size ≤ 140737488351232) (a1 : Int) (p : Nat) (hp : p < 6) (hpa : Int.tmod a1 6 = p) : ∀ (d k i : Nat) (s : ByteArray) (want : List S27), i + d = 20 → i ≤ xs.length → need d ≤ k → s.size ≤ 60 * i → want.length ≤ i →
    Good 11 (kinds.getD p ⟨#[]⟩).data.toList s want → (p ≤ 2 → Good 12 (kinds.getD p ⟨#[]⟩).data.toList s want) → targumlaw2_BrkJoined.l0 k xs a1 (kinds.getD p ⟨#[]⟩) s want (i : Int) = some true := by
  have fin : ∀ (k i : Nat) (s : ByteArray) (want : List S27), 3900 ≤ k → s.size ≤ 1200 → want.length ≤ 20 →
      Good 11 (kinds.getD p ⟨#[]⟩).data.toList s want → (p ≤ 2 → Good 12 (kinds.getD p ⟨#[]⟩).data.toList s want) → targumlaw2_BrkJoined.j1 k xs a1 (kinds.getD p ⟨#[]⟩) s want (i : Int) false = some true := by
    intro k i s want hk hs hw g11 g12
    obtain ⟨k, rfl⟩ : ∃ z, k = z + 1 := ⟨k - 1, by omega⟩
    simp only [targumlaw2_BrkJoined.j1]
    rw [if_neg (by decide), Lines_eq 11 s (by omega) k (by omega)]
    simp only [Option.bind_some]
    rw [g11.lines, hLines_eq _ _ (by omega) k (by omega)]
    simp only [Option.bind_some, decide_true, if_true]
    rw [hpa]
    by_cases h2 : (p : Int) > 2
    · rw [if_pos h2]
    · rw [if_neg h2, Lines_eq 12 s (by omega) k (by omega)]
      simp only [Option.bind_some]
      rw [(g12 (by omega)).lines, hLines_eq _ _ (by omega) k (by omega)]
      simp
  intro d
  induction d with
  | zero =>
    intro k i s want hi hil hk hs hw g11 g12
    have hk' : 4000 ≤ k := hk
    obtain ⟨k, rfl⟩ : ∃ z, k = z + 1 := ⟨k - 1, by omega⟩
    simp only [targumlaw2_BrkJoined.l0]
    rw [decide_eq_false (show ¬ (i : Int) < 20 by omega), ite_self]
    exact fin k i s want (by omega) (by omega) (by omega) g11 g12
  | succ d ih =>
    intro k i s want hi hil hk hs hw g11 g12
    have hk' : need d + 100 ≤ k := hk
    have hg := need_ge d
    obtain ⟨k, rfl⟩ : ∃ z, k = z + 1 := ⟨k - 1, by omega⟩
    simp only [targumlaw2_BrkJoined.l0]
    by_cases hlt : (i : Int) < (xs.length : Int)
    · have hi' : i < xs.length := by omega
      have hbs : (kinds.getD p ⟨#[]⟩).size ≤ 3 := by have := (kinds11 p hp).size; rw [← Lib.size_eq] at this; exact this
      have hxz := hz _ (List.getElem_mem hi')
      rw [if_pos hlt, decide_eq_true (show (i : Int) < 20 by omega)]
      obtain ⟨k, rfl⟩ : ∃ z, k = z + 1 := ⟨k - 1, by omega⟩
      simp only [targumlaw2_BrkJoined.j1]
      rw [if_pos True.intro, if_pos (by omega), if_pos hlt, rdOf_get xs i hi']
      have J2 : ∀ k, targumlaw2_BrkJoined.j2 (k + 1) xs a1 (kinds.getD p ⟨#[]⟩) s want (i : Int) true = some true := fun k => by
        simp only [targumlaw2_BrkJoined.j2]
        rw [if_pos True.intro]
      by_cases hb : (xs[i].size : Int) > 50
      · rw [if_pos hb]
        obtain ⟨k, rfl⟩ : ∃ z, k = z + 1 := ⟨k - 1, by omega⟩
        exact J2 k
      · rw [if_neg hb, Well_eq _ (by omega) k (by omega)]
        simp only [Option.bind_some]
        obtain ⟨k, rfl⟩ : ∃ z, k = z + 1 := ⟨k - 1, by omega⟩
        cases well xs[i].data.toList with
        | false => exact J2 k
        | true =>
          simp only [targumlaw2_BrkJoined.j2]
          rw [if_neg (by decide)]
          refine joined_l1 xs hxs a1 _ s want i hi' (by omega) (need d) (by omega) (by omega) (by omega) hbs (fun hno k' hk'' => ?_) xs[i].size 0 k (by omega) (fun z hz' => by omega) (by omega)
          have hf : (kinds.getD p ⟨#[]⟩).data.toList = [13] → ba xs[i].data.toList 0 ≠ 10 := fun _ h10 => by
            by_cases h0 : 0 < xs[i].data.toList.length
            · have := hno 0 h0
              rw [List.drop_zero, brkW_num, h10] at this
              simp at this
            · rw [ba_beyond (by omega)] at h10
              exact absurd h10 (by decide)
          refine ih k' (i + 1) _ _ (by omega) (by omega) hk'' ?_ (by rw [List.length_append, List.length_singleton]; omega) (g11.snoc (kinds11 p hp) xs[i] hno hf _ rfl) (fun h2 => (g12 h2).snoc (kinds12 p h2) xs[i] hno hf _ rfl)
          rw [ByteArray.size_append, ByteArray.size_append]
          omega
    · rw [if_neg hlt]
      exact fin k i s want (by omega) (by omega) (by omega) g11 g12

theorem BrkJoined : targumlaw2_BrkJoined.Pure := by
  intro xs a1 hm _ hz ha
  have ha' : (decide (IntKind.u8.min ≤ a1) && decide (a1 ≤ IntKind.u8.max)) = true := ha
  rw [Bool.and_eq_true, decide_eq_true_eq, decide_eq_true_eq] at ha'
  have h0 : (0 : Int) ≤ a1 := ha'.1
  have p0 : 0 ≤ Int.tmod a1 6 := Int.tmod_nonneg _ h0
  have p1 : Int.tmod a1 6 < 6 := Int.tmod_lt_of_pos _ (by decide)
  suffices H : ∀ k, need 20 ≤ k → targumlaw2_BrkJoined.f k xs a1 = some true from ⟨_, H _ (Nat.le_refl _)⟩
  intro k hk
  have hg := need_ge 20
  unfold targumlaw2_BrkJoined.f
  rw [joined_known k (by omega)]
  simp only [Option.bind_some, if_true]
  rw [if_pos p0, if_pos p1]
  obtain ⟨p, hp⟩ : ∃ p : Nat, Int.tmod a1 6 = p := ⟨(Int.tmod a1 6).toNat, by omega⟩
  rw [hp, Int.toNat_natCast]
  exact joined_l0 xs (by have := hm; unfold maxLen at this; omega) hz a1 p (by omega) hp 20 k 0 ⟨#[]⟩ [] (by omega) (by omega) hk (by decide) (by decide) (Good.nil _ _) (fun _ => Good.nil _ _)
end Go.Proofs.YtkphlddgfmgogaaDoor.Pure
