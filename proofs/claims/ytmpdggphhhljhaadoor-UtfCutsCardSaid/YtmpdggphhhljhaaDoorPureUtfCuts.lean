/- UtfCuts in plain words. -/
import Derived.Test.YtmpdggphhhljhaaDoorUtfSpec12
import Derived.Test.YtmpdggphhhljhaaDoorPCx8
namespace Go.Proofs.YtmpdggphhhljhaaDoor.Pure
set_option linter.unusedSimpArgs false
set_option linter.unusedVariables false
open Go.RowKit Go.Proofs.YtmpdggphhhljhaaDoor.PC Go.Proofs.YtmpdggphhhljhaaDoorW.PrintWords Go.Proofs.YtmpdggphhhljhaaDoor.Aid Go.Proofs.YtmpdggphhhljhaaDoor.BrkFns Go.Proofs.YtmpdggphhhljhaaDoor.UtfSpec
theorem Within_eq (a lo hi : Int) (h : 0 ≤ lo ∧ lo ≤ hi ∧ hi ≤ 1000000) (ha : -9223372036854775808 ≤ a ∧ a ≤ 9223372036854775807) : ∃ k, targumhelp_Within.f a lo hi = some k ∧ lo ≤ k ∧ k ≤ hi := by
  unfold targumhelp_Within.f
  have e1 : wrap64 (wrap64 (hi - lo) + 1) = hi - lo + 1 := by rw [wrap_id (x := hi - lo) (by omega) (by omega), wrap_id (by omega) (by omega)]
  rw [e1, if_neg (by omega)]
  obtain ⟨m, hm⟩ : ∃ m, Int.tmod a (hi - lo + 1) = m := ⟨_, rfl⟩
  have hr : -(hi - lo + 1) < m ∧ m < hi - lo + 1 := by
    rw [← hm]
    have p1 := Int.tmod_lt_of_pos a (show 0 < hi - lo + 1 by omega)
    have p2 := Int.lt_tmod_of_pos a (show 0 < hi - lo + 1 by omega)
    exact ⟨p2, p1⟩
  rw [hm]
  by_cases hneg : m < 0
  · rw [if_pos hneg]
    refine ⟨_, rfl, ?_⟩
    rw [wrap_id (x := m + hi) (by omega) (by omega), wrap_id (x := m + hi - lo) (by omega) (by omega), wrap_id (x := m + hi - lo + 1) (by omega) (by omega), wrap_id (by omega) (by omega)]
    omega
  · rw [if_neg hneg]
    refine ⟨_, rfl, ?_⟩
    rw [wrap_id (by omega) (by omega)]
    omega
theorem ext_take (s : ByteArray) (n : Nat) (h : n ≤ s.size) : (s.extract 0 n).data.toList = s.data.toList.take n := by
  rw [ByteArray.data_extract, Array.toList_extract]
  simp
theorem toList_eq (s : ByteArray) : s.toList = s.data.toList := Lib.toList_data s
theorem i64_wf {x : Int} (h : (Lit.int .i64 x).wf = true) : -9223372036854775808 ≤ x ∧ x ≤ 9223372036854775807 := by
  have : (decide (IntKind.i64.min ≤ x) && decide (x ≤ IntKind.i64.max)) = true := h
  rw [Bool.and_eq_true, decide_eq_true_iff, decide_eq_true_iff] at this
  have a : IntKind.i64.min = -9223372036854775808 := rfl
  have b : IntKind.i64.max = 9223372036854775807 := rfl
  omega
theorem UtfCuts : targumlaw1_UtfCuts.Pure := by
  intro s a cut hs ha hcut
  have ha := u8_wf ha
  have hcut := i64_wf hcut
  obtain ⟨K, hK⟩ : ∃ K, K = 5000 := ⟨_, rfl⟩
  refine ⟨K, ?_⟩
  unfold targumlaw1_UtfCuts.f
  rw [known1 _ (by omega), Option.bind_some, if_pos rfl]
  obtain ⟨e, hee⟩ : ∃ e, wrap64 (1 + wrap64 (Int.tmod a 5)) = e := ⟨_, rfl⟩
  have he : 1 ≤ e ∧ e ≤ 5 := by
    rw [← hee, Int.tmod_eq_emod_of_nonneg (by omega), wrap_id (x := a % 5) (by omega) (by omega), wrap_id (by omega) (by omega)]; omega
  rw [hee, Few_eq K s 300 (by omega) (by omega) hs, Option.bind_some]
  by_cases hf : (s.size : Int) ≤ 300 ∧ chk s.data.toList = -1
  case neg => rw [decide_eq_false hf]; rfl
  obtain ⟨h1, h2⟩ := hf
  have hw := chk_well _ _ (Nat.le_refl _) h2
  have hbom : (⟨#[239, 187, 191]⟩ : ByteArray).data.toList = to8 (Lib.encodeRuneZ 65279) := by decide
  obtain ⟨hw2, henc⟩ := encS_cons e he 65279 (by decide) ⟨#[239, 187, 191]⟩ s hbom hw
  obtain ⟨hw3, henc3⟩ := encS_cons e he 65279 (by decide) ⟨#[239, 187, 191]⟩ ⟨#[]⟩ hbom rfl
  have hz3 : (⟨#[239, 187, 191]⟩ : ByteArray).size = 3 := rfl
  have hempty : (⟨#[239, 187, 191]⟩ : ByteArray) ++ ⟨#[]⟩ = ⟨#[239, 187, 191]⟩ := by decide
  have hnil : encL e (⟨#[]⟩ : ByteArray).size (⟨#[]⟩ : ByteArray).data.toList = [] := rfl
  rw [hempty, hnil, List.append_nil] at henc3
  have hT : encL e s.size s.data.toList = encT e s.data.toList := by unfold encT; rw [Lib.size_eq]
  rw [hT] at henc
  have hll := encL_len4 e s.data.toList.length s.data.toList
  have hT4 : (encT e s.data.toList).length ≤ 4 * s.size := by unfold encT; rw [Lib.size_eq]; exact hll
  have hul := encU_len e 65279
  have hup := encU_pos e 65279
  rw [decide_eq_true ⟨h1, h2⟩, if_pos rfl, if_pos (by omega), Encode_eq K e _ (by rw [ByteArray.size_append, hz3]; omega) (by rw [ByteArray.size_append, hz3]; omega), Option.bind_some, henc,
    Size_eq K e _ (by rw [hz3]; omega) (by rw [hz3]; omega) he, Option.bind_some, henc3]
  obtain ⟨U, hU⟩ : ∃ U, encU e 65279 = U := ⟨_, rfl⟩
  have hfirst := fun q => first_ne e s.data.toList.length s.data.toList h2 q
  have hBU : isB U := hU ▸ encU_isB e 65279
  have hBT : isB (encT e s.data.toList) := encL_isB _ _ _
  rw [hU] at hul hup ⊢
  have hlen : (U ++ encT e s.data.toList).length = U.length + (encT e s.data.toList).length := List.length_append
  obtain ⟨k, hk1, hk2, hk3⟩ := Within_eq cut (U.length : Int) ((U ++ encT e s.data.toList).length : Int) (by omega) hcut
  rw [if_neg (by omega), hk1, Option.bind_some, if_pos (by omega), if_pos hk3]
  -- what is cut off
  obtain ⟨j, hj⟩ : ∃ j : Nat, k = (U.length : Int) + j := ⟨(k - U.length).toNat, by omega⟩
  have htake : (U ++ encT e s.data.toList).take k.toNat = U ++ (encT e s.data.toList).take j := by
    rw [show k.toNat = U.length + j by omega, List.take_append, List.take_of_length_le (by omega), show U.length + j - U.length = j by omega]
  obtain ⟨p, q, tail, c1, c2, c3, c4, c5⟩ := cut_text e he _ s.data.toList (Nat.le_refl _) hw j
  have hpl : p.length ≤ s.size := by rw [Lib.size_eq, c1, List.length_append]; omega
  have hTp4 : (encT e p).length ≤ 4 * p.length := encL_len4 e p.length p
  have hBt : isB ((encT e s.data.toList).take j) := fun x hx => hBT x (List.mem_of_mem_take hx)
  -- its encoding, and that of a beginning of it
  have det : ∀ i : Nat, detE (U ++ (encT e s.data.toList).take i) = e ∧ detM (U ++ (encT e s.data.toList).take i) = U.length := by
    intro i
    have := marked_det e he ((encT e s.data.toList).take i) (by
      intro q3
      have hf := hfirst (.inr q3)
      unfold encT
      intro hz
      obtain ⟨z0, z1⟩ := hz
      rw [atI_take] at z0 z1
      by_cases hi0 : 0 < i
      · rw [if_pos hi0] at z0
        by_cases hi1 : 1 < i
        · rw [if_pos hi1] at z1; exact hf ⟨z0, .inl z1⟩
        · rw [if_neg hi1] at z1; omega
      · rw [if_neg hi0] at z0; omega)
    rw [hU] at this
    exact this
  have hpT : (encT e s.data.toList).take (encT e p).length = encT e p := by
    have e1 : ((encT e s.data.toList).take j).take (encT e p).length = encT e p := by
      rw [c3, List.take_append_of_le_length (Nat.le_refl _), List.take_length]
    have hle : (encT e p).length ≤ j ∨ (encT e s.data.toList).length ≤ j := by
      have := congrArg List.length c3
      rw [List.length_take, List.length_append] at this
      omega
    rw [List.take_take] at e1
    rcases hle with hle | hle
    · rw [Nat.min_eq_left hle] at e1; exact e1
    · have : (encT e p).length ≤ j := by
        have := congrArg List.length c3
        rw [List.length_take, List.length_append] at this
        omega
      rw [Nat.min_eq_left this] at e1; exact e1
  have hjl : ((encT e s.data.toList).take j).length = j := by
    rw [List.length_take]; omega
  have hjt : j = (encT e p).length + tail.length := by
    have := congrArg List.length c3
    rw [hjl, List.length_append] at this
    exact this
  -- the text of a beginning
  have dec : ∀ (o : List Int) (D : Nat), (encT e p).length ≤ D → decL e (U.length : Int) (U ++ encT e p) D U.length [] = (e, (U.length : Int), strOfNums (nums p), 0, 0) := by
    intro _ D hD
    have := dec_enc e (U.length : Int) he p.length p U D [] (Nat.le_refl _) c2 hD
    rw [List.nil_append] at this
    exact this
  have hS : (strOfNums (nums p)).data.toList = p := by rw [to8_data, to8_nums]
  have hSz : (strOfNums (nums p)).size = p.length := by rw [Lib.size_eq, hS]
  have hpre : (s.extract 0 ((strOfNums (nums p)).size : Int).toNat).toList = (strOfNums (nums p)).toList := by
    rw [toList_eq, toList_eq, Int.toNat_natCast, hSz, ext_take s _ hpl, hS, c1, List.take_left]
  rw [htake, Decode_eq _ (hBU.append hBt) (by rw [List.length_append]; omega) K (by rw [List.length_append]; omega), Option.bind_some, (det j).1, (det j).2]
  have hD : (U ++ (encT e s.data.toList).take j).length = U.length + j := by rw [List.length_append, hjl]
  rw [hD, c3]
  by_cases ht : tail = []
  · subst ht
    rw [List.append_nil, dec [] _ (by omega)]
    dsimp only
    rw [if_pos rfl, if_pos (by rw [hSz]; omega), if_pos (by omega), if_pos hpre, Size_eq K e _ (by rw [hSz]; omega) (by rw [hSz]; omega) he, Option.bind_some, encS_T e he _ (by rw [hS]; exact c2), hS]
    rw [wrap_id (by omega) (by omega)]
    have : (U.length : Int) + ((encT e p).length : Int) = k := by simp only [List.length_nil] at hjt; omega
    rw [this]; simp
  · have h0 := c4.resolve_left ht
    have htl := List.length_pos_iff.2 ht
    have := dec_tail e (U.length : Int) he tail ht h0 p.length p U (U.length + j) [] (Nat.le_refl _) c2 (by show (encT e p).length < _; omega)
    have e2 : encL e p.length p = encT e p := rfl
    rw [e2] at this
    rw [this]
    dsimp only
    have e3 : (((U.length + (encT e p).length : Nat) : Int)).toNat = U.length + (encT e p).length := Int.toNat_natCast _
    rw [if_neg (by decide), if_pos rfl, if_neg (by omega), if_neg (by omega), if_neg (by rw [wrap_id (by omega) (by omega)]; omega), if_pos (by omega), if_pos (by omega), e3, List.take_append, List.take_of_length_le (by omega), show U.length + (encT e p).length - U.length = (encT e p).length by omega]
    have hBp : isB ((encT e s.data.toList).take (encT e p).length) := fun x hx => hBT x (List.mem_of_mem_take hx)
    rw [Decode_eq _ (hBU.append hBp) (by rw [List.length_append, hpT]; omega) K (by rw [List.length_append, hpT]; omega), Option.bind_some, (det _).1, (det _).2, hpT, List.length_append, dec [] _ (by omega)]
    dsimp only
    rw [if_pos (by rw [Lib.toList_data]; rfl), if_pos rfl, if_pos (by rw [hSz]; omega), if_pos (by omega), hpre]
    simp
end Go.Proofs.YtmpdggphhhljhaaDoor.Pure
