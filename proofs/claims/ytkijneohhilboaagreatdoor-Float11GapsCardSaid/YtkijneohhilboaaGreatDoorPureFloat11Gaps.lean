/- The pure law Float11Gaps: signs that are gone over say nothing behind the first digit, up to a power. No conditions. -/
import Derived.Test.YtkijneohhilboaaGreatDoorFloat11Dig
import Derived.Test.YtkijneohhilboaaGreatDoorPKx15
namespace Go.Proofs.YtkijneohhilboaaGreatDoor.Pure
set_option linter.unusedSimpArgs false
set_option linter.unusedVariables false
open Go.RowKit Go.Lib Go.Proofs.YtkijneohhilboaaGreatDoor.Room Go.Proofs.YtkijneohhilboaaGreatDoor.PK Go.Proofs.YtkijneohhilboaaGreatDoorW.PrintWords Go.Proofs.YtkijneohhilboaaGreatDoor.Aid Go.Proofs.YtkijneohhilboaaGreatDoor.Num Go.Proofs.YtkijneohhilboaaGreatDoor.BigFns Go.Proofs.YtkijneohhilboaaGreatDoor.BigQ Go.Proofs.YtkijneohhilboaaGreatDoor.RefBig Go.Proofs.YtkijneohhilboaaGreatDoor.DecSpec Go.Proofs.YtkijneohhilboaaGreatDoor.NumSpec Go.Proofs.YtkijneohhilboaaGreatDoor.IntSpec Go.Proofs.YtkijneohhilboaaGreatDoor.FSix Go.Proofs.YtkijneohhilboaaGreatDoor.FloatSpec
/-- a strange sign ahead -/
theorem float_head {l s : List UInt8} {c : UInt8} {r : List UInt8} (h : sg l = (s, c :: r)) (hc : ¬ (48 ≤ c.toNat ∧ c.toNat ≤ 57)) (h46 : c ≠ 46) : float11 l = zero6 := by
  have hw := wordless (l := c :: r) (by intro x hx e; have : x = c := (Option.some.inj (show some c = some x from hx)).symm
                                        rw [this] at e; exact absurd e h46)
  unfold float11
  rw [h]
  dsimp only
  rw [hw.1, hw.2, if_neg Bool.false_ne_true, if_neg (fun q => Bool.false_ne_true q.1)]
  rw [cut46, if_neg h46]
  cases cut46 r with
  | none => rfl
  | some p =>
    show dec11 _ (c :: p.1) p.2 = zero6
    unfold dec11
    cases expo11 (p.2.dropWhile isG) with
    | none => rfl
    | some z =>
      dsimp only
      rw [if_neg (List.cons_ne_nil _ _)]
      have : whole11 (c :: p.1) = none := by
        unfold whole11
        rw [if_neg (show ¬ firstD (c :: p.1) = true from fun q => hc (of_decide_eq_true q))]
      rw [this]
theorem gap_facts {g : List UInt8} (hg : ∀ x ∈ g, x = 95) : (∀ x ∈ g, isG x = true) ∧ sift g = [] := by
  refine ⟨fun x hx => by rw [hg x hx]; decide, ?_⟩
  unfold sift
  rw [List.filter_eq_nil_iff]
  intro x hx
  rw [hg x hx]; decide
/-- a row of digits with signs put in -/
theorem put_digs {a b g : List UInt8} (ha : Digs a) (hb : Digs b) (hg : ∀ x ∈ g, x = 95) : (∀ x ∈ a ++ (g ++ b), isG x = true) ∧ sift (a ++ (g ++ b)) = a ++ b := by
  obtain ⟨g1, g2⟩ := gap_facts hg
  refine ⟨fun x hx => ?_, ?_⟩
  · rcases List.mem_append.1 hx with q | q
    · exact digs_G ha x q
    · rcases List.mem_append.1 q with q | q
      · exact g1 x q
      · exact digs_G hb x q
  · rw [sift_append, sift_append, g2, List.nil_append, sift_no (digs_no ha (by decide)), sift_no (digs_no hb (by decide))]
theorem put_split {W F g : List UInt8} (hW : Digs W) (hF : Digs F) (hne : W ≠ []) (hg : ∀ x ∈ g, x = 95) (k : Nat) (h1 : 1 ≤ k) (h2 : k ≤ (W ++ 46 :: F).length) : ∃ w f, (W ++ 46 :: F).take k ++ g ++ (W ++ 46 :: F).drop k = w ++ 46 :: f ∧ (∀ x ∈ w, isG x = true) ∧ (∀ x ∈ f, isG x = true) ∧ sift w = W ∧ sift f = F ∧ ∃ x ∈ w.head?, 48 ≤ x.toNat ∧ x.toNat ≤ 57 := by
  obtain ⟨x, r, rfl⟩ : ∃ x r, W = x :: r := by
    cases W with
    | nil => exact absurd rfl hne
    | cons x r => exact ⟨x, r, rfl⟩
  have hx : 48 ≤ x.toNat ∧ x.toNat ≤ 57 := hW x (by simp)
  by_cases hk : k ≤ (x :: r).length
  · obtain ⟨j, rfl⟩ : ∃ j, k = j + 1 := ⟨k - 1, by omega⟩
    rw [List.length_cons] at hk
    have e1 : (x :: r ++ 46 :: F).take (j + 1) = x :: r.take j := by
      rw [List.cons_append, List.take_succ_cons, List.take_append_of_le_length (by omega)]
    have e2 : (x :: r ++ 46 :: F).drop (j + 1) = r.drop j ++ 46 :: F := by
      rw [List.cons_append, List.drop_succ_cons, List.drop_append_of_le_length (by omega)]
    have ha : Digs (x :: r.take j) := fun y hy => by
      rcases List.mem_cons.1 hy with q | q
      · rw [q]; exact hx
      · exact hW y (List.mem_cons_of_mem _ (List.mem_of_mem_take q))
    have hb : Digs (r.drop j) := fun y hy => hW y (List.mem_cons_of_mem _ (List.mem_of_mem_drop hy))
    obtain ⟨p1, p2⟩ := put_digs ha hb hg
    refine ⟨x :: r.take j ++ (g ++ r.drop j), F, by rw [e1, e2]; simp, p1, digs_G hF, ?_, sift_no (digs_no hF (by decide)), x, rfl, hx⟩
    rw [p2, List.cons_append, List.take_append_drop]
  · obtain ⟨j, rfl⟩ : ∃ j, k = (x :: r).length + 1 + j := ⟨k - (x :: r).length - 1, by omega⟩
    have e0 : x :: r ++ 46 :: F = (x :: r ++ [46]) ++ F := by simp
    have l0 : (x :: r ++ [46]).length = (x :: r).length + 1 := by simp
    have e1 : (x :: r ++ 46 :: F).take ((x :: r).length + 1 + j) = (x :: r ++ [46]) ++ F.take j := by
      rw [e0, ← l0, List.take_length_add_append]
    have e2 : (x :: r ++ 46 :: F).drop ((x :: r).length + 1 + j) = F.drop j := by
      rw [e0, ← l0, List.drop_length_add_append]
    have ha : Digs (F.take j) := fun y hy => hF y (List.mem_of_mem_take hy)
    have hb : Digs (F.drop j) := fun y hy => hF y (List.mem_of_mem_drop hy)
    obtain ⟨p1, p2⟩ := put_digs ha hb hg
    refine ⟨x :: r, F.take j ++ (g ++ F.drop j), by rw [e1, e2]; simp, digs_G hW, p1, sift_no (digs_no hW (by decide)), ?_, x, rfl, hx⟩
    rw [p2, List.take_append_drop]
theorem gaps_dec {w f W F : List UInt8} (hw : ∀ x ∈ w, isG x = true) (hf : ∀ x ∈ f, isG x = true) (sw : sift w = W) (sf : sift f = F) (hd : ∃ x ∈ w.head?, 48 ≤ x.toNat ∧ x.toNat ≤ 57) (t : List UInt8) (ht : ∀ x ∈ t.head?, isG x = false) :
    float11 (w ++ 46 :: (f ++ t)) = match expo11 t with | none => zero6 | some z => six5 (makeN false (W ++ F) (z - F.length)) 1 := by
  have hne : w ≠ [] := fun e => by
    obtain ⟨x, hx, _⟩ := hd
    rw [e] at hx; cases hx
  have h46 : 46 ∉ w := fun q => absurd (hw 46 q) (by decide)
  have := float11_at [] w (f ++ t) (.inl rfl) h46 (fun x hx => by
    obtain ⟨y, hy, hyd⟩ := hd
    cases w with
    | nil => exact absurd rfl hne
    | cons a w =>
      have e1 : a = x := Option.some.inj hx
      have e2 : a = y := Option.some.inj hy
      rw [← e1, e2]; exact .inr hyd) (fun e => absurd e hne)
  rw [List.nil_append] at this
  rw [this, dec11_plain _ w f t hne hd hw hf ht, sw, sf]
  rfl
theorem gaps7_end (w f : ByteArray) (hw : 1 ≤ w.size ∧ w.size ≤ 30) (hf : f.size ≤ 30) (a3 m : Int) (hm : Int.tmod a3 5 = m) (h5 : 0 ≤ m ∧ m < 5) (kk : Nat) (h1 : 1 ≤ kk) (h2 : kk ≤ w.size + 1 + f.size) :
    ∀ (d i : Nat) (g : List UInt8) (k : Nat), (i : Int) + d = m → g.length = i → (∀ x ∈ g, x = 95) → 120000 + d ≤ k → targumlaw7_Float11Gaps.l0 k w f a3 (txt (digL w.data.toList ++ 46 :: digL f.data.toList)) (kk : Int) (txt g) (i : Int) = some true
  | d + 1, i, g, k, hi, hgl, hg, hk => by
    obtain ⟨k, rfl⟩ : ∃ q, k = q + 1 := ⟨k - 1, by omega⟩
    have ih := gaps7_end w f hw hf a3 m hm h5 kk h1 h2 d (i + 1) (g ++ [95]) k (by omega) (by rw [List.length_append, List.length_singleton, hgl]) (fun x hx => (List.mem_append.1 hx).elim (hg x) (fun q => List.mem_singleton.1 q)) (by omega)
    rw [show ((i + 1 : Nat) : Int) = (i : Int) + 1 by omega] at ih
    simp only [targumlaw7_Float11Gaps.l0]
    rw [hm, wrap_id (x := m) (by omega) (by omega), if_pos (by omega), if_pos (by rw [txt_size]; omega), wrap_id (by omega) (by omega), show (⟨#[95]⟩ : ByteArray) = txt [95] from rfl, app_txt]
    exact ih
  | 0, i, g, k, hi, hgl, hg, hk => by
    obtain ⟨k, rfl⟩ : ∃ q, k = q + 1 := ⟨k - 1, by omega⟩
    have wm : wrap64 m = m := wrap_id (by omega) (by omega)
    have nlt : ¬ (i : Int) < m := by omega
    have k0 : (0 : Int) ≤ (kk : Int) := Int.natCast_nonneg kk
    have g5 : g.length ≤ 5 := by omega
    have hW := digL_digs w.data.toList
    have hF := digL_digs f.data.toList
    have lW : (digL w.data.toList).length = w.size := by rw [digL_length, ← Lib.size_eq]
    have lF : (digL f.data.toList).length = f.size := by rw [digL_length, ← Lib.size_eq]
    have dw := digits7 w (by omega) k (by omega)
    have df := digits7 f (by omega) k (by omega)
    obtain ⟨W, hWe⟩ : ∃ W, digL w.data.toList = W := ⟨_, rfl⟩
    obtain ⟨F, hFe⟩ : ∃ F, digL f.data.toList = F := ⟨_, rfl⟩
    rw [hWe] at dw lW hW ⊢
    rw [hFe] at df lF hF ⊢
    have hWne : W ≠ [] := fun e => by rw [e] at lW; simp at lW; omega
    have lS : (W ++ 46 :: F).length = w.size + 1 + f.size := by rw [List.length_append, List.length_cons]; omega
    obtain ⟨w', f', hT, hw', hf', sw, sf, hd⟩ := put_split hW hF hWne hg kk h1 (by omega)
    have hd0 : ∃ x ∈ W.head?, 48 ≤ x.toNat ∧ x.toNat ≤ 57 := by
      cases hh : W with
      | nil => exact absurd hh hWne
      | cons a r => exact ⟨a, rfl, hW a (by rw [hh]; simp)⟩
    have S0 : ∀ t : List UInt8, (∀ x ∈ t.head?, isG x = false) → float11 (W ++ 46 :: (F ++ t)) = match expo11 t with | none => zero6 | some z => six5 (makeN false (W ++ F) (z - F.length)) 1 := fun t ht => gaps_dec (digs_G hW) (digs_G hF) (sift_no (digs_no hW (by decide))) (sift_no (digs_no hF (by decide))) hd0 t ht
    have T0 := fun t ht => gaps_dec hw' hf' sw sf hd t ht
    have t7 : ∀ x ∈ ([101, 45, 55] : List UInt8).head?, isG x = false := fun x hx => by
      obtain rfl : (101 : UInt8) = x := Option.some.inj hx
      decide
    have x7 : expo11 [101, 45, 55] = some (-7) := by decide
    have e1 := S0 [] (by simp)
    rw [List.append_nil] at e1
    have e2 := T0 [] (by simp)
    rw [List.append_nil] at e2
    have e3 := T0 [101, 45, 55] t7
    rw [x7] at e3
    have tl : ∀ x ∈ (101 :: 45 :: (g ++ [95])).head?, isG x = false := fun x hx => by
      obtain rfl : (101 : UInt8) = x := Option.some.inj hx
      decide
    have e4 := S0 (101 :: 45 :: (g ++ [95])) tl
    have xn : expo11 (101 :: 45 :: (g ++ [95])) = none := by
      show (if ((101 : UInt8) = 101 ∨ (101 : UInt8) = 69) ∧ (sg (45 :: (g ++ [95]))).1 ≠ [] ∧ okD (sg (45 :: (g ++ [95]))).2 = true then some (sv (45 :: (g ++ [95]))) else none) = none
      rw [sg_sign (.inr rfl), if_neg]
      rintro ⟨_, _, q⟩
      exact absurd (show 48 ≤ (95 : UInt8).toNat ∧ (95 : UInt8).toNat ≤ 57 from ((okD_iff _).1 q).1 95 (by simp)) (by decide)
    rw [xn] at e4
    have c1 : (txt (W ++ 46 :: F)).extract 0 kk = txt ((W ++ 46 :: F).take kk) := by apply ext_list; rw [extract_take, txt_list, txt_list]
    have c2 : (txt (W ++ 46 :: F)).extract kk (W ++ 46 :: F).length = txt ((W ++ 46 :: F).drop kk) := by
      have : (txt (W ++ 46 :: F)).extract kk (txt (W ++ 46 :: F)).size = txt ((W ++ 46 :: F).drop kk) := by apply ext_list; rw [extract_end, txt_list, txt_list]
      rw [txt_size] at this
      exact this
    have lt : ((W ++ 46 :: F).take kk).length ≤ 61 := by rw [List.length_take]; omega
    have ld : ((W ++ 46 :: F).drop kk).length ≤ 61 := by rw [List.length_drop]; omega
    have lT : (w' ++ 46 :: f').length ≤ 66 := by
      have l1 : ((W ++ 46 :: F).take kk).length + ((W ++ 46 :: F).drop kk).length = (W ++ 46 :: F).length := by rw [← List.length_append, List.take_append_drop]
      rw [← hT, List.length_append, List.length_append]; omega
    have lT7 : (w' ++ 46 :: (f' ++ [101, 45, 55])).length ≤ 69 := by
      rw [show w' ++ 46 :: (f' ++ [101, 45, 55]) = (w' ++ 46 :: f') ++ [101, 45, 55] by simp, List.length_append, List.length_cons, List.length_cons, List.length_singleton]; omega
    have lG : (g ++ (W ++ 46 :: F)).length ≤ 66 := by rw [List.length_append]; omega
    have lE : (W ++ 46 :: (F ++ 101 :: 45 :: (g ++ [95]))).length ≤ 70 := by
      simp only [List.length_append, List.length_cons, List.length_nil] at lS ⊢; omega
    have o1 := Of11_eq (W ++ 46 :: F) (by omega) k (by omega)
    have o2 := Of11_eq (w' ++ 46 :: f') (by omega) k (by omega)
    have o3 := Of11_eq (w' ++ 46 :: (f' ++ [101, 45, 55])) (by omega) k (by omega)
    have o4 := Is11_eq (W ++ 46 :: (F ++ 101 :: 45 :: (g ++ [95]))) (by omega) k (by omega)
    have o5 := Is11_eq (g ++ (W ++ 46 :: F)) (by omega) k (by omega)
    have d7 : decDigits 7 = [55] := by rw [decDigits, dif_pos (by decide)]; rfl
    have l7 : (itoa (-7)).length ≤ 10000 := by
      have := itoa_len (-7)
      rw [show (-7 : Int).natAbs = 7 from rfl, d7, List.length_singleton] at this
      omega
    have mk7 := rMake_yes false W F (-7) (by omega) (by omega) l7 (hW.append hF) (fun q => hWne (List.append_eq_nil_iff.1 q).1) k (by omega)
    have n7 : num (-7) = (⟨#[45, 55]⟩ : ByteArray) := by rw [show (-7 : Int) = -((7 : Nat) : Int) from rfl, num_neg 7 (by decide), d7]; rfl
    rw [n7] at mk7
    have x0 : expo11 ([] : List UInt8) = some 0 := rfl
    rw [x0] at e1 e2
    dsimp only at e1 e2 e3 e4
    rw [e1, makeN_ok _ _ _ 1 (by decide)] at o1
    rw [e2, makeN_ok _ _ _ 1 (by decide)] at o2
    rw [e3, makeN_ok _ _ _ 1 (by decide)] at o3
    rw [e4, show decide (zero6.2.2.2.2 > 0) = false by decide] at o4
    have mt0 := (makeN_zero false (W ++ F) (0 - F.length)).2
    have mt7 := (makeN_zero false (W ++ F) (-7 - F.length)).2
    have q0 := eqD (makeN false (W ++ F) (0 - F.length)) _ rfl
    have q7 := eqD (makeN false (W ++ F) (-7 - F.length)) _ rfl
    obtain ⟨M0, hM0⟩ : ∃ M, makeN false (W ++ F) (0 - F.length) = M := ⟨_, rfl⟩
    obtain ⟨M7, hM7⟩ : ∃ M, makeN false (W ++ F) (-7 - F.length) = M := ⟨_, rfl⟩
    rw [hM0] at o1 o2 mt0 q0
    rw [hM7] at o3 mt7 q7 mk7
    have y1 : ((W ++ 46 :: F).take kk).length + g.length ≤ 9223372036854775807 := by omega
    have y2 : ((W ++ 46 :: F).take kk ++ g).length + ((W ++ 46 :: F).drop kk).length ≤ 9223372036854775807 := by rw [List.length_append]; omega
    have y3 : (w' ++ 46 :: f').length + 3 ≤ 9223372036854775807 := by omega
    have y4 : (W ++ 46 :: F).length + 2 ≤ 9223372036854775807 := by omega
    have y5 : (W ++ 46 :: F ++ [101, 45]).length + g.length ≤ 9223372036854775807 := by rw [List.length_append, List.length_cons, List.length_singleton]; omega
    have y6 : (W ++ 46 :: F ++ [101, 45] ++ g).length + 1 ≤ 9223372036854775807 := by rw [List.length_append, List.length_append, List.length_cons, List.length_singleton]; omega
    have y7 : g.length + (W ++ 46 :: F).length ≤ 9223372036854775807 := by omega
    have y8 : (kk : Int) ≤ ((W ++ 46 :: F).length : Int) := by omega
    have r1 : w' ++ 46 :: f' ++ [101, 45, 55] = w' ++ 46 :: (f' ++ [101, 45, 55]) := by simp
    have r2 : W ++ 46 :: F ++ [101, 45] ++ g ++ [95] = W ++ 46 :: (F ++ 101 :: 45 :: (g ++ [95])) := by simp
    have fin : ((float11_Is.f k (txt (W ++ 46 :: F ++ [101, 45] ++ g ++ [95]))).bind fun t439 => (some (!t439))) = some true := by rw [r2, o4]; rfl
    clear lT lT7 lG lE lt ld lS lW lF hk hw hf h1 h2 hi h5 hgl g5
    simp only [targumlaw7_Float11Gaps.l0]
    rw [hm, wm, if_neg nlt, o1, Option.bind_some, if_pos k0, txt_size, if_pos y8, Int.toNat_natCast, c1, c2, txt_size, txt_size, if_pos y1, app_txt, txt_size, txt_size, if_pos y2, app_txt, hT, o2, Option.bind_some, txt_size, if_pos y3, show (⟨#[101, 45, 55]⟩ : ByteArray) = txt [101, 45, 55] from rfl, app_txt, r1, o3, Option.bind_some, dw, Option.bind_some, df, Option.bind_some, mk7, Option.bind_some, if_pos mt0, if_pos mt0, if_pos mt7, if_pos q0, if_pos q7, txt_toList, show (⟨#[101, 45]⟩ : ByteArray) = txt [101, 45] from rfl, show (⟨#[95]⟩ : ByteArray) = txt [95] from rfl, if_pos y4, app_txt, txt_size, if_pos y5, app_txt, txt_size, if_pos y6, app_txt]
    by_cases hg0 : g = []
    · rw [if_pos hg0]; exact fin
    · rw [if_neg hg0, if_pos y7, app_txt]
      obtain ⟨a, r, rfl⟩ : ∃ a r, g = a :: r := by
        cases g with
        | nil => exact absurd rfl hg0
        | cons a r => exact ⟨a, r, rfl⟩
      have ha := hg a (by simp)
      subst ha
      have hz : float11 (95 :: r ++ (W ++ 46 :: F)) = zero6 := float_head (s := []) (c := 95) (r := r ++ (W ++ 46 :: F)) rfl (by decide) (by decide)
      rw [hz, show decide (zero6.2.2.2.2 > 0) = false by decide] at o5
      rw [o5, Option.bind_some, if_neg Bool.false_ne_true]
      exact fin
theorem Float11Gaps : targumlaw7_Float11Gaps.Pure := by
  intro w f a2 a3 hw0 hf0 h2 h3
  have u8 : ∀ c : Int, (Lit.int .u8 c).wf = true → 0 ≤ c ∧ c ≤ 255 := fun c hc => by
    have : (decide (IntKind.u8.min ≤ c) && decide (c ≤ IntKind.u8.max)) = true := hc
    rw [Bool.and_eq_true, decide_eq_true_iff, decide_eq_true_iff] at this
    have p : IntKind.u8.min = 0 := rfl
    have q : IntKind.u8.max = 255 := rfl
    omega
  have b2 := u8 a2 h2
  have b3 := u8 a3 h3
  obtain ⟨K, hK⟩ : ∃ K, K = 120100 := ⟨_, rfl⟩
  refine ⟨K + 1, ?_⟩
  have hk := known7 (K + 1) (by omega)
  unfold targumlaw7_Float11Gaps.f
  rw [hk, Option.bind_some, if_pos rfl]
  have J : targumlaw7_Float11Gaps.j0 (K + 1) w f a2 a3 true = some true := by simp only [targumlaw7_Float11Gaps.j0, if_true]
  by_cases c1 : (w.size : Int) < 1
  · rw [if_pos c1]; exact J
  · rw [if_neg c1]
    by_cases c2 : (w.size : Int) > 30
    · rw [if_pos c2]; exact J
    · rw [if_neg c2]
      by_cases c3 : (f.size : Int) > 30
      · rw [decide_eq_true c3]; exact J
      · rw [decide_eq_false c3]
        have lW : (digL w.data.toList).length = w.size := by rw [digL_length, ← Lib.size_eq]
        have lF : (digL f.data.toList).length = f.size := by rw [digL_length, ← Lib.size_eq]
        have dw := digits7 w (by omega) K (by omega)
        have df := digits7 f (by omega) K (by omega)
        have hN : (digL w.data.toList ++ 46 :: digL f.data.toList).length = w.size + 1 + f.size := by rw [List.length_append, List.length_cons]; omega
        have eS : digL w.data.toList ++ [46] ++ digL f.data.toList = digL w.data.toList ++ 46 :: digL f.data.toList := by simp
        obtain ⟨u, hu⟩ : ∃ u, Int.tmod a2 ((w.size + 1 + f.size : Nat) : Int) = u := ⟨_, rfl⟩
        have u0 : 0 ≤ u ∧ u < ((w.size + 1 + f.size : Nat) : Int) := by
          rw [← hu, Int.tmod_eq_emod_of_nonneg b2.1]
          exact ⟨Int.emod_nonneg _ (by omega), Int.emod_lt_of_pos _ (by omega)⟩
        obtain ⟨m, hm⟩ : ∃ m, Int.tmod a3 5 = m := ⟨_, rfl⟩
        have m0 : 0 ≤ m ∧ m < 5 := by rw [← hm, Int.tmod_eq_emod_of_nonneg b3.1]; omega
        obtain ⟨kk, hkk⟩ : ∃ kk : Nat, 1 + u = (kk : Int) := ⟨(1 + u).toNat, by omega⟩
        have wk : wrap64 (1 + u) = (kk : Int) := by rw [wrap_id (by omega) (by omega), hkk]
        have wa : wrap64 a2 = a2 := wrap_id (by omega) (by omega)
        have fin := gaps7_end w f ⟨by omega, by omega⟩ (by omega) a3 m hm m0 kk (by omega) (by omega) m.toNat 0 [] K (by omega) rfl (by simp) (by omega)
        have z1 : (digL w.data.toList).length + 1 ≤ 9223372036854775807 := by omega
        have z2 : (digL w.data.toList ++ [46]).length + (digL f.data.toList).length ≤ 9223372036854775807 := by rw [List.length_append, List.length_singleton]; omega
        have z3 : ¬ ((digL w.data.toList ++ 46 :: digL f.data.toList).length : Int) = 0 := by omega
        simp only [targumlaw7_Float11Gaps.j0, Bool.false_eq_true, if_false]
        rw [dw, Option.bind_some, txt_size, if_pos z1, df, Option.bind_some, show (⟨#[46]⟩ : ByteArray) = txt [46] from rfl, app_txt, txt_size, txt_size, if_pos z2, app_txt, eS, txt_size, if_neg z3, wa, hN, hu, wk]
        exact fin
end Go.Proofs.YtkijneohhilboaaGreatDoor.Pure
