/- Decimals: what the program's layer 5 and the reference compute, of every text. No conditions but sizes. -/
import Derived.Test.YtkijneohhilboaaGreatDoorRefBig3
import Derived.Test.YtkijneohhilboaaGreatDoorPTx5
import Derived.Test.YtkijneohhilboaaGreatDoorPTx12
namespace Go.Proofs.YtkijneohhilboaaGreatDoor.DecSpec
set_option linter.unusedSimpArgs false
set_option linter.unusedVariables false
open Go.RowKit Go.Lib Go.Proofs.YtkijneohhilboaaGreatDoor.Room Go.Proofs.YtkijneohhilboaaGreatDoor.PT Go.Proofs.YtkijneohhilboaaGreatDoorW.PrintWords Go.Proofs.YtkijneohhilboaaGreatDoor.Aid Go.Proofs.YtkijneohhilboaaGreatDoor.Num Go.Proofs.YtkijneohhilboaaGreatDoor.BigFns Go.Proofs.YtkijneohhilboaaGreatDoor.BigQ Go.Proofs.YtkijneohhilboaaGreatDoor.RefBig
/-! ### noughts at both ends -/
def zs (n : Nat) : List UInt8 := List.replicate n 48
theorem zs_length (n : Nat) : (zs n).length = n := List.length_replicate
theorem zs_digs (n : Nat) : Digs (zs n) := fun x hx => by rw [List.eq_of_mem_replicate hx]; exact ⟨by decide, by decide⟩
def HeadNo (c : List UInt8) : Prop := c = [] ∨ ∃ y r, c = y :: r ∧ y ≠ 48
def LastNo (c : List UInt8) : Prop := c = [] ∨ ∃ r y, c = r ++ [y] ∧ y ≠ 48
theorem con48 (y : UInt8) : ([48] : List UInt8).contains y = (y == 48) := contains_one 48 y
theorem trimL_zs : ∀ (n : Nat) (c : List UInt8), HeadNo c → trimLeftS (zs n ++ c) [48] = c
  | 0, c, h => by
    show trimLeftS c [48] = c
    unfold trimLeftS
    rcases h with rfl | ⟨y, r, rfl, hy⟩
    · rfl
    · rw [List.dropWhile_cons, if_neg (by rw [con48]; simpa using hy)]
  | n + 1, c, h => by
    have := trimL_zs n c h
    unfold trimLeftS at this ⊢
    show List.dropWhile _ (48 :: (zs n ++ c)) = c
    rw [List.dropWhile_cons, if_pos (by rw [con48]; rfl)]
    exact this
theorem HeadNo.rev {c : List UInt8} (h : LastNo c) : HeadNo c.reverse := by
  rcases h with rfl | ⟨r, y, rfl, hy⟩
  · exact .inl rfl
  · exact .inr ⟨y, r.reverse, by simp, hy⟩
theorem LastNo.rev {c : List UInt8} (h : HeadNo c) : LastNo c.reverse := by
  rcases h with rfl | ⟨y, r, rfl, hy⟩
  · exact .inl rfl
  · exact .inr ⟨r.reverse, y, by simp, hy⟩
theorem zs_rev (n : Nat) : (zs n).reverse = zs n := by unfold zs; exact List.reverse_replicate
theorem trimR_zs (n : Nat) (c : List UInt8) (h : LastNo c) : trimRightS (c ++ zs n) [48] = c := by
  have := trimL_zs n c.reverse (HeadNo.rev h)
  unfold trimRightS
  rw [List.reverse_append, zs_rev]
  unfold trimLeftS at this
  rw [this, List.reverse_reverse]
theorem splitL : ∀ l : List UInt8, ∃ n c, l = zs n ++ c ∧ HeadNo c
  | [] => ⟨0, [], rfl, .inl rfl⟩
  | x :: l => by
    by_cases h : x = 48
    · obtain ⟨n, c, e, hc⟩ := splitL l
      exact ⟨n + 1, c, by rw [h, e]; rfl, hc⟩
    · exact ⟨0, x :: l, rfl, .inr ⟨x, l, rfl, h⟩⟩
theorem splitR (l : List UInt8) : ∃ n c, l = c ++ zs n ∧ LastNo c := by
  obtain ⟨n, c, e, hc⟩ := splitL l.reverse
  refine ⟨n, c.reverse, ?_, LastNo.rev hc⟩
  have := congrArg List.reverse e
  rw [List.reverse_reverse, List.reverse_append, zs_rev] at this
  exact this
/-- noughts ahead, a core, noughts behind; or noughts alone -/
theorem split3 (l : List UInt8) : (∃ n, l = zs n) ∨ ∃ a c b, l = zs a ++ c ++ zs b ∧ HeadNo c ∧ LastNo c ∧ c ≠ [] := by
  obtain ⟨b, t, e, ht⟩ := splitR l
  obtain ⟨a, c, e', hc⟩ := splitL t
  by_cases h : c = []
  · left
    subst h
    refine ⟨a + b, ?_⟩
    rw [e, e', List.append_nil]
    unfold zs
    rw [List.replicate_append_replicate]
  · right
    refine ⟨a, c, b, by rw [e, e'], hc, ?_, h⟩
    rcases ht with h0 | ⟨r, y, h0, hy⟩
    · rw [h0] at e'
      exact absurd (List.append_eq_nil_iff.1 e'.symm).2 h
    · right
      refine ⟨c.dropLast, y, ?_, hy⟩
      have hl : c.getLast h = y := by
        have h1 : (zs a ++ c).getLast (by simp [h]) = y := by
          simp only [← e', h0]
          simp
        rw [List.getLast_append_of_ne_nil _ h] at h1
        exact h1
      rw [← hl]
      exact (List.dropLast_concat_getLast h).symm
theorem trims_noughts (n : Nat) : trimRightS (zs n) [48] = [] := by
  have := trimR_zs n [] (.inl rfl)
  rwa [List.nil_append] at this
theorem LastNo.cons {c : List UInt8} (a : Nat) (h : LastNo c) (hne : c ≠ []) : LastNo (zs a ++ c) := by
  rcases h with rfl | ⟨r, y, rfl, hy⟩
  · exact absurd rfl hne
  · exact .inr ⟨zs a ++ r, y, by rw [List.append_assoc], hy⟩
theorem trims_core {a b : Nat} {c : List UInt8} (h1 : HeadNo c) (h2 : LastNo c) (hne : c ≠ []) : trimRightS (zs a ++ c ++ zs b) [48] = zs a ++ c ∧ trimLeftS (zs a ++ c) [48] = c :=
  ⟨trimR_zs b _ (LastNo.cons a h2 hne), trimL_zs a c h1⟩
/-! ### digits by Trim -/
def ten : List UInt8 := [48, 49, 50, 51, 52, 53, 54, 55, 56, 57]
theorem ten_contains (x : UInt8) : ten.contains x = decide (48 ≤ x.toNat ∧ x.toNat ≤ 57) := by
  have : ∀ n : Nat, n < 256 → ten.contains (UInt8.ofNat n) = decide (48 ≤ n ∧ n ≤ 57) := by decide +kernel
  have h := this x.toNat x.toNat_lt
  rwa [UInt8.ofNat_toNat] at h
theorem dropWhile_nil {p : UInt8 → Bool} : ∀ {l : List UInt8}, l.dropWhile p = [] ↔ l.all p = true
  | [] => by simp
  | x :: l => by
    rw [List.dropWhile_cons, List.all_cons]
    cases h : p x
    · simp
    · simp only [if_true, Bool.true_and]
      exact dropWhile_nil
theorem all_rev (p : UInt8 → Bool) (l : List UInt8) : l.reverse.all p = l.all p := by
  rw [Bool.eq_iff_iff, List.all_eq_true, List.all_eq_true]
  exact ⟨fun h x hx => h x (List.mem_reverse.2 hx), fun h x hx => h x (List.mem_reverse.1 hx)⟩
theorem trimS_nil (l : List UInt8) : (trimS l ten == []) = digB l := by
  have hp : (fun x => ten.contains x) = (fun x : UInt8 => decide (48 ≤ x.toNat ∧ x.toNat ≤ 57)) := funext ten_contains
  rw [Bool.eq_iff_iff, beq_iff_eq]
  unfold trimS trimLeftS trimRightS digB
  rw [dropWhile_nil, hp]
  have key : l.all (fun x => decide (48 ≤ x.toNat ∧ x.toNat ≤ 57)) = true ↔ (l.reverse.dropWhile (fun x => decide (48 ≤ x.toNat ∧ x.toNat ≤ 57))).reverse.all (fun x => decide (48 ≤ x.toNat ∧ x.toNat ≤ 57)) = true := by
    rw [all_rev]
    constructor
    · intro h
      rw [dropWhile_nil.2 (by rw [all_rev]; exact h)]
      rfl
    · intro h
      rw [← all_rev, List.all_eq_true]
      intro x hx
      rw [← List.takeWhile_append_dropWhile (p := fun x : UInt8 => decide (48 ≤ x.toNat ∧ x.toNat ≤ 57)) (l := l.reverse)] at hx
      rcases List.mem_append.1 hx with q | q
      · exact List.all_eq_true.1 List.all_takeWhile x q
      · exact List.all_eq_true.1 h x q
  exact key.symm
theorem ten_eq : (⟨#[48, 49, 50, 51, 52, 53, 54, 55, 56, 57]⟩ : ByteArray) = txt ten := rfl
theorem dec_digits_eq (l : List UInt8) (hs : l.length ≤ 1000000) : dec_digits.f (txt l) = some (digB l) := by
  unfold dec_digits.f strings_Trim.f
  rw [if_pos ⟨by decide, by decide, by rw [txt_size]; omega⟩]
  simp only [Option.bind_some]
  rw [← trimS_nil]
  show some ((txt (trimS l ten)).toList == []) = _
  rw [txt_toList]
/-! ### which decimals may be -/
def Core (d : List UInt8) : Prop := Digs d ∧ d ≠ [] ∧ HeadNo d ∧ LastNo d
def goodD (K : Int) (neg : Bool) (d e : List UInt8) : Prop := (K = 0 ∧ d = [48] ∧ e = [48]) ∨ (K = 0 ∧ Core d ∧ IsNum e) ∨ (K = 1 ∧ d = [] ∧ e = []) ∨ (K = 2 ∧ neg = false ∧ d = [] ∧ e = [])
theorem bt_last (l : List UInt8) (y : UInt8) : bt (txt (l ++ [y])) (l.length : Int) = (y.toNat : Int) := by
  rw [bt_nat, txt_list, ba_append_right _ (Nat.le_refl _), Nat.sub_self]; rfl
theorem core_iff {d : List UInt8} (x : UInt8) (r : List UInt8) (hd : d = x :: r) (r' : List UInt8) (y : UInt8) (hy : d = r' ++ [y]) (hg : Digs d) : Core d ↔ (x ≠ 48 ∧ y ≠ 48) := by
  constructor
  · rintro ⟨_, hne, h1, h2⟩
    constructor
    · rcases h1 with e | ⟨x', r1, e, hx⟩
      · exact absurd e hne
      · rw [hd] at e; rw [(List.cons.inj e).1]; exact hx
    · rcases h2 with e | ⟨r1, y', e, hy'⟩
      · exact absurd e hne
      · rw [hy] at e
        have := List.append_inj' e rfl
        rw [(List.cons.inj this.2).1]; exact hy'
  · rintro ⟨h1, h2⟩
    exact ⟨hg, by rw [hd]; simp, .inr ⟨x, r, hd, h1⟩, .inr ⟨r', y, hy, h2⟩⟩
theorem Core.not48 {d : List UInt8} (h : Core d) : d ≠ [48] := by
  rintro rfl
  rcases h.2.2.1 with e | ⟨x, r, e, hx⟩
  · cases e
  · exact hx (List.cons.inj e).1.symm
theorem not_core_48 : ¬ Core [48] := fun h => h.not48 rfl
end Go.Proofs.YtkijneohhilboaaGreatDoor.DecSpec
