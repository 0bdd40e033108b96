/- The pure law Int11Gaps: signs that are gone over say nothing behind the first one. No conditions. -/
import Derived.Test.YtkijneohhilboaaDoorInt11Put
import Derived.Test.YtkijneohhilboaaDoorPIx11
namespace Go.Proofs.YtkijneohhilboaaDoor.Pure
set_option linter.unusedSimpArgs false
set_option linter.unusedVariables false
open Go.RowKit Go.Lib Go.Proofs.YtkijneohhilboaaDoor.Room Go.Proofs.YtkijneohhilboaaDoor.PI Go.Proofs.YtkijneohhilboaaDoorW.PrintWords Go.Proofs.YtkijneohhilboaaDoor.Aid Go.Proofs.YtkijneohhilboaaDoor.Num Go.Proofs.YtkijneohhilboaaDoor.BigFns Go.Proofs.YtkijneohhilboaaDoor.BigQ Go.Proofs.YtkijneohhilboaaDoor.RefBig Go.Proofs.YtkijneohhilboaaDoor.DecSpec Go.Proofs.YtkijneohhilboaaDoor.NumSpec Go.Proofs.YtkijneohhilboaaDoor.IntSpec
theorem sg_none {x : UInt8} (h : ¬ (x = 43 ∨ x = 45)) (r : List UInt8) : sg (x :: r) = ([], x :: r) := by
  unfold sg; dsimp only; rw [if_neg h]
theorem int11_gap (l : List UInt8) (kk n : Nat) (f : Int) (hc : core11 (sg l).2 = some (n, f)) (hf : f ≠ 4 ∧ f ≠ 6) (hk : (sg l).1.length + (if f < 3 then 2 else 1) ≤ kk) (hk2 : kk ≤ l.length) (g : List UInt8) (hg : ∀ x ∈ g, x = 95) :
    int11 (l.take kk ++ (g ++ l.drop kk)) = int11 l := by
  have h12 : 1 ≤ (if f < 3 then 2 else 1) := by split <;> omega
  match l, kk, hk, hk2 with
  | [], kk, hk, hk2 => simp at hk2; omega
  | x :: r, 0, hk, hk2 => omega
  | x :: r, kk + 1, hk, hk2 =>
    rw [List.length_cons] at hk2
    rw [List.take_succ_cons, List.drop_succ_cons, List.cons_append]
    by_cases hx : x = 43 ∨ x = 45
    · rw [sg_sign hx] at hc hk
      have h := core_gap (p := r.take kk) (g := g) (q := r.drop kk) hf (by rw [List.take_append_drop]; exact hc) (by rw [List.length_take]; rw [List.length_singleton] at hk; omega) hg
      unfold int11
      rw [sg_sign hx, sg_sign hx]
      dsimp only at hc ⊢
      rw [h, hc]
    · rw [sg_none hx] at hc hk
      have h := core_gap (p := x :: r.take kk) (g := g) (q := r.drop kk) hf (by rw [List.cons_append, List.take_append_drop]; exact hc) (by rw [List.length_cons, List.length_take]; rw [List.length_nil] at hk; omega) hg
      rw [List.cons_append] at h
      unfold int11
      rw [sg_none hx, sg_none hx]
      dsimp only at hc ⊢
      rw [h, hc]
theorem gaps_l1 (l : List UInt8) (hl : l.length ≤ 60) (a2 m : Int) (hm : Int.tmod a2 5 = m) (h2 : 0 ≤ m ∧ m < 5) (kk : Nat) (hkk : kk ≤ l.length) (H : ∀ g, (∀ x ∈ g, x = 95) → int11 (l.take kk ++ (g ++ l.drop kk)) = int11 l) (hp : (int11 l).2 > 0) :
    ∀ (d i : Nat) (g : List UInt8) (k : Nat), (i : Int) + d = m → g.length = i → (∀ x ∈ g, x = 95) → 5000 + d ≤ k → targumlaw6_Int11Gaps.l1 k (txt l) a2 (int11 l).1 (int11 l).2 (kk : Int) (txt g) (i : Int) = some true
  | 0, i, g, k, hi, hgl, hg, hk => by
    obtain ⟨k, rfl⟩ : ∃ q, k = q + 1 := ⟨k - 1, by omega⟩
    have t1 : (txt l).extract 0 kk = txt (l.take kk) := by apply ext_list; rw [extract_take, txt_list, txt_list]
    have t2 : (txt l).extract kk (txt l).size = txt (l.drop kk) := by apply ext_list; rw [extract_end, txt_list, txt_list]
    have z1 : (l.take kk).length = kk := by rw [List.length_take]; omega
    have z2 : (l.drop kk).length = l.length - kk := List.length_drop
    have z3 : (l.take kk ++ (g ++ l.drop kk)).length ≤ 70 := by rw [List.length_append, List.length_append, z1, z2]; omega
    have eO := Of_eq (l.take kk ++ (g ++ l.drop kk)) (by omega) k (by omega)
    have eF := Form_eq (l.take kk ++ (g ++ l.drop kk)) (by omega)
    rw [H g hg] at eO eF
    rw [decide_eq_true hp] at eO
    simp only [targumlaw6_Int11Gaps.l1]
    rw [hm, wrap_id (by omega) (by omega), if_neg (by omega), if_pos (by omega), if_pos (by rw [txt_size]; omega), Int.toNat_natCast, t1, t2, txt_size, txt_size, if_pos (by omega), app_txt, txt_size, txt_size, if_pos (by rw [List.length_append]; omega), app_txt, List.append_assoc, eO, Option.bind_some, if_pos rfl, if_pos rfl, eF, Option.bind_some, beq_self_eq_true]
  | d + 1, i, g, k, hi, hgl, hg, hk => by
    obtain ⟨k, rfl⟩ : ∃ q, k = q + 1 := ⟨k - 1, by omega⟩
    have ih := gaps_l1 l hl a2 m hm h2 kk hkk H hp d (i + 1) (g ++ [95]) k (by omega) (by rw [List.length_append, List.length_singleton, hgl]) (fun x hx => (List.mem_append.1 hx).elim (hg x) (fun q => List.mem_singleton.1 q)) (by omega)
    rw [show ((i + 1 : Nat) : Int) = (i : Int) + 1 by omega] at ih
    simp only [targumlaw6_Int11Gaps.l1]
    rw [hm, wrap_id (x := m) (by omega) (by omega), if_pos (by omega), if_pos (by rw [txt_size]; omega), wrap_id (by omega) (by omega), show (⟨#[95]⟩ : ByteArray) = txt [95] from rfl, app_txt]
    exact ih
theorem gaps_j2 (l : List UInt8) (hl : l.length ≤ 60) (a1 a2 : Int) (h1 : 0 ≤ a1 ∧ a1 ≤ 255) (h2 : 0 ≤ a2 ∧ a2 ≤ 255) (n : Nat) (f : Int) (hc : core11 (sg l).2 = some (n, f)) (hf : f ≠ 4 ∧ f ≠ 6) (hi : (int11 l).2 = f) (hp : f > 0) (k : Nat) (hk : 5100 ≤ k) :
    targumlaw6_Int11Gaps.j2 k (txt l) a1 a2 (int11 l).1 (int11 l).2 ((sg l).1.length : Int) = some true := by
  obtain ⟨k, rfl⟩ : ∃ q, k = q + 2 := ⟨k - 2, by omega⟩
  have hlen : (sg l).1.length + (sg l).2.length = l.length := by rw [← List.length_append, sg_app]
  obtain ⟨m, hm⟩ : ∃ m, Int.tmod a2 5 = m := ⟨_, rfl⟩
  have m0 : 0 ≤ m ∧ m < 5 := by rw [← hm, Int.tmod_eq_emod_of_nonneg h2.1]; omega
  have J : ∀ y : Nat, y + 1 = (sg l).1.length + (if f < 3 then 2 else 1) → y < l.length → targumlaw6_Int11Gaps.j3 (k + 1) (txt l) a1 a2 (int11 l).1 (int11 l).2 (y : Int) = some true := fun y hy hyl => by
    obtain ⟨u, hu⟩ : ∃ u, Int.tmod a1 ((l.length : Int) - y) = u := ⟨_, rfl⟩
    have u0 : 0 ≤ u ∧ u < (l.length : Int) - y := by
      rw [← hu, Int.tmod_eq_emod_of_nonneg h1.1]
      exact ⟨Int.emod_nonneg _ (by omega), Int.emod_lt_of_pos _ (by omega)⟩
    simp only [targumlaw6_Int11Gaps.j3]
    rw [txt_size, wrap_id (x := (l.length : Int) - y) (by omega) (by omega), if_neg (by omega), wrap_id (x := a1) (by omega) (by omega), wrap_id (x := (y : Int) + 1) (by omega) (by omega), hu, wrap_id (by omega) (by omega)]
    obtain ⟨kk, hkk⟩ : ∃ kk : Nat, (y : Int) + 1 + u = kk := ⟨((y : Int) + 1 + u).toNat, by omega⟩
    rw [hkk]
    have := gaps_l1 l hl a2 m hm m0 kk (by omega) (fun g hg => int11_gap l kk n f hc hf (by omega) (by omega) g hg) (by omega) m.toNat 0 [] k (by omega) rfl (by simp) (by omega)
    exact this
  simp only [targumlaw6_Int11Gaps.j2]
  have hs1 : (sg l).1.length ≤ 60 := by omega
  have J' := J
  rw [hi] at J' ⊢
  by_cases h3 : f < 3
  · rw [if_pos h3, wrap_id (by omega) (by omega)]
    have h2l : 2 ≤ (sg l).2.length := by
      rcases core_cases hc with ⟨d, ht, _⟩ | ⟨d, ht, _⟩ | ⟨ht, hn, hf'⟩ | ⟨d, ht, n1, n2, e, he, hn, hf'⟩ | ⟨x, r, ht, hx, ⟨e, he, hn, hf'⟩ | ⟨he, hn, hf'⟩⟩
      · rw [ht]; simp
      · rw [ht]; simp
      all_goals omega
    have := J' ((sg l).1.length + 1) (by rw [if_pos h3]) (by omega)
    rw [show (((sg l).1.length + 1 : Nat) : Int) = ((sg l).1.length : Int) + 1 by omega] at this
    exact this
  · rw [if_neg h3]
    have h1l : 1 ≤ (sg l).2.length := by
      rcases core_cases hc with ⟨d, ht, _⟩ | ⟨d, ht, _⟩ | ⟨ht, hn, hf'⟩ | ⟨d, ht, n1, n2, e, he, hn, hf'⟩ | ⟨x, r, ht, hx, ⟨e, he, hn, hf'⟩ | ⟨he, hn, hf'⟩⟩ <;> (rw [ht]; simp)
    exact J' ((sg l).1.length) (by rw [if_neg h3]) (by omega)
theorem Int11Gaps : targumlaw6_Int11Gaps.Pure := by
  intro s a1 a2 hs0 ha1 ha2
  have u8 : ∀ c : Int, (Lit.int .u8 c).wf = true → 0 ≤ c ∧ c ≤ 255 := fun c hc => by
    have : (decide (IntKind.u8.min ≤ c) && decide (c ≤ IntKind.u8.max)) = true := hc
    rw [Bool.and_eq_true, decide_eq_true_iff, decide_eq_true_iff] at this
    have p : IntKind.u8.min = 0 := rfl
    have q : IntKind.u8.max = 255 := rfl
    omega
  have h1 := u8 a1 ha1
  have h2 := u8 a2 ha2
  obtain ⟨l, rfl⟩ : ∃ l, s = txt l := ⟨s.data.toList, (ext_list (by rw [txt_list])).symm⟩
  obtain ⟨K, hK⟩ : ∃ K, K = 6000 := ⟨_, rfl⟩
  refine ⟨K + 1, ?_⟩
  have hk := known6 (K + 1) (by omega)
  unfold targumlaw6_Int11Gaps.f
  rw [hk, Option.bind_some, if_pos rfl, txt_size]
  by_cases hl : (l.length : Int) > 60
  · rw [if_pos hl]
  · have hl : l.length ≤ 60 := by omega
    rw [if_neg (by omega), Int11_eq l (by omega) _ (by omega), Option.bind_some]
    have J1 : targumlaw6_Int11Gaps.j0 (K + 1) (txt l) a1 a2 (int11 l).1 (int11 l).2 true = some true := by
      simp only [targumlaw6_Int11Gaps.j0]
      rw [if_pos trivial, Form_eq l (by omega), Option.bind_some, beq_self_eq_true]
    by_cases f0 : (int11 l).2 = 0
    · rw [if_pos f0]; exact J1
    · rw [if_neg f0]
      by_cases f4 : (int11 l).2 = 4
      · rw [if_pos f4]; exact J1
      · rw [if_neg f4]
        by_cases f6 : (int11 l).2 = 6
        · rw [show ((int11 l).2 == 6) = true from beq_iff_eq.2 f6]; exact J1
        · rw [show ((int11 l).2 == 6) = false from beq_eq_false_iff_ne.2 f6]
          obtain ⟨n, f, hc⟩ : ∃ n f, core11 (sg l).2 = some (n, f) := by
            rw [int11_form] at f0
            unfold formT at f0
            cases h : core11 (sg l).2 with
            | none => rw [h] at f0; exact absurd rfl f0
            | some p => exact ⟨p.1, p.2, rfl⟩
          have hi : (int11 l).2 = f := by rw [int11_form]; unfold formT; rw [hc]
          have hp : f > 0 := by have := int11_pos l; omega
          obtain ⟨y, t, ht, hy⟩ : ∃ y t, (sg l).2 = y :: t ∧ 48 ≤ y.toNat ∧ y.toNat ≤ 57 := by
            rcases core_cases hc with ⟨d, ht, _⟩ | ⟨d, ht, _⟩ | ⟨ht, hn, hf'⟩ | ⟨d, ht, n1, n2, e, he, hn, hf'⟩ | ⟨x, r, ht, hx, _⟩
            · exact ⟨_, _, ht, by decide, by decide⟩
            · exact ⟨_, _, ht, by decide, by decide⟩
            · exact ⟨_, _, ht, by decide, by decide⟩
            · exact ⟨_, _, ht, by decide, by decide⟩
            · exact ⟨_, _, ht, by omega, hx.2⟩
          have hj2 := gaps_j2 l hl a1 a2 h1 h2 n f hc ⟨by omega, by omega⟩ hi hp
          simp only [targumlaw6_Int11Gaps.j0, Bool.false_eq_true, if_false]
          have happ := sg_app l
          have stop : ∀ k, 5100 ≤ k → ∀ s', (sg l).1 = s' → targumlaw6_Int11Gaps.l0 (k + 1) (txt l) a1 a2 (int11 l).1 (int11 l).2 (s'.length : Int) = some true := fun k hk s' hs' => by
            have hb : bt (txt l) (s'.length : Int) = (y.toNat : Int) := by rw [← happ, ht, hs']; exact bt_mid s' y t
            have hlt : s'.length < l.length := by rw [← happ, ht, hs', List.length_append, List.length_cons]; omega
            have := hj2 k hk
            rw [hs'] at this
            simp only [targumlaw6_Int11Gaps.l0]
            rw [txt_size, if_pos (by omega), if_pos (by omega), hb, if_neg (by omega), if_neg (by omega)]
            exact this
          have hcase : (sg l).1 = [] ∨ ∃ x, (sg l).1 = [x] ∧ (x = 43 ∨ x = 45) ∧ l = x :: (sg l).2 := by
            cases l with
            | nil => exact .inl rfl
            | cons x r =>
              by_cases hx : x = 43 ∨ x = 45
              · rw [sg_sign hx]; exact .inr ⟨x, rfl, hx, rfl⟩
              · rw [sg_none hx]; exact .inl rfl
          rcases hcase with h | ⟨x, h, hx, hl'⟩
          · obtain ⟨k', rfl⟩ : ∃ k', K = k' + 1 := ⟨K - 1, by omega⟩
            exact stop k' (by omega) [] h
          · obtain ⟨k', rfl⟩ : ∃ k', K = k' + 1 + 1 := ⟨K - 2, by omega⟩
            have := stop k' (by omega) [x] h
            have hb : bt (txt l) 0 = (x.toNat : Int) := by rw [hl']; exact bt_head x _
            have hlt : 0 < l.length := by rw [hl']; simp
            simp only [targumlaw6_Int11Gaps.l0] at this ⊢
            rw [txt_size] at this ⊢
            rw [if_pos (by omega), if_pos (by omega), hb, wrap_id (by omega) (by omega)]
            rcases hx with rfl | rfl
            · rw [if_pos (by rfl)]; exact this
            · rw [if_neg (by decide), if_pos (by rfl)]; exact this
end Go.Proofs.YtkijneohhilboaaDoor.Pure
