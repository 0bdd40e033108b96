/- UtfUnmarked in plain words. -/
import Derived.Test.YtmpdggphhhljhaaDoorUtfLaw
import Derived.Test.YtmpdggphhhljhaaDoorPWx7
namespace Go.Proofs.YtmpdggphhhljhaaDoor.Pure
set_option linter.unusedSimpArgs false
set_option linter.unusedVariables false
open Go.RowKit Go.Proofs.YtmpdggphhhljhaaDoor.PW Go.Proofs.YtmpdggphhhljhaaDoorW.PrintWords Go.Proofs.YtmpdggphhhljhaaDoor.Aid Go.Proofs.YtmpdggphhhljhaaDoor.BrkFns Go.Proofs.YtmpdggphhhljhaaDoor.UtfSpec
theorem unmarked_det (e : Int) (he : 1 ≤ e ∧ e ≤ 5) (c : Int) (h0 : 32 ≤ c ∧ c ≤ 126) (d : Nat) (l : List UInt8) (hc : chk l = -1) : detE (encU e c ++ encL e d l) = e ∧ detM (encU e c ++ encL e d l) = 0 := by
  have hf := fun h => first_ne e d l hc h
  obtain ⟨r, hr⟩ : ∃ r, encL e d l = r := ⟨_, rfl⟩
  rw [hr] at hf ⊢
  have m0 : c % 256 = c := by omega
  have m1 : c / 256 % 256 = 0 := by omega
  have m2 : c / 65536 % 256 = 0 := by omega
  have m3 : c / 16777216 % 256 = 0 := by omega
  have : e = 1 ∨ e = 2 ∨ e = 3 ∨ e = 4 ∨ e = 5 := by omega
  unfold detE detM
  rcases this with rfl | rfl | rfl | rfl | rfl
  · have eq : encU 1 c = [c] := by unfold encU; rw [if_pos rfl, Lib.encodeRuneZ_one (by omega) (by omega)]
    rw [eq]
    have hf := hf (by omega)
    show (dd c (atI r 0) (atI r 1) (atI r 2)).1 = 1 ∧ (dd c (atI r 0) (atI r 1) (atI r 2)).2.toNat = 0
    unfold dd d0 d1 d2 d3 d4 d5 d6 d7
    rw [if_neg (by omega), if_neg (by omega), if_neg (by omega), if_neg (by omega), if_neg (by omega), if_neg (by omega), if_neg (by omega), if_neg (by omega), if_neg (by omega)]
    exact ⟨rfl, rfl⟩
  · have eq : encU 2 c = [0, c] := by
      unfold encU
      rw [if_neg (by omega), if_pos (by omega), if_neg (by omega)]
      show [c / 256 % 256, c % 256] = _
      rw [m0, m1]
    rw [eq]
    show (dd 0 c (atI r 0) (atI r 1)).1 = 2 ∧ (dd 0 c (atI r 0) (atI r 1)).2.toNat = 0
    unfold dd d0 d1 d2 d3 d4
    rw [if_neg (by omega), if_neg (by omega), if_neg (by omega), if_neg (by omega), if_neg (by omega), if_pos (by omega)]
    exact ⟨rfl, rfl⟩
  · have eq : encU 3 c = [c, 0] := by
      unfold encU
      rw [if_neg (by omega), if_pos (by omega), if_neg (by omega)]
      show [c % 256, c / 256 % 256] = _
      rw [m0, m1]
    rw [eq]
    have hf := hf (by omega)
    show (dd c 0 (atI r 0) (atI r 1)).1 = 3 ∧ (dd c 0 (atI r 0) (atI r 1)).2.toNat = 0
    unfold dd d0 d1 d2 d3 d4 d5 d6
    rw [if_neg (by omega), if_neg (by omega), if_neg (by omega), if_neg (by omega), if_neg (by omega), if_neg (by omega), if_neg (by omega), if_pos (by omega)]
    exact ⟨rfl, rfl⟩
  · have eq : encU 4 c = [0, 0, 0, c] := by
      unfold encU
      rw [if_neg (by omega), if_neg (by omega)]
      show [c / 16777216 % 256, c / 65536 % 256, c / 256 % 256, c % 256] = _
      rw [m0, m1, m2, m3]
    rw [eq]
    show (dd 0 0 0 c).1 = 4 ∧ (dd 0 0 0 c).2.toNat = 0
    unfold dd d0
    rw [if_neg (by omega), if_pos (by omega)]
    exact ⟨rfl, rfl⟩
  · have eq : encU 5 c = [c, 0, 0, 0] := by
      unfold encU
      rw [if_neg (by omega), if_neg (by omega)]
      show [c % 256, c / 256 % 256, c / 65536 % 256, c / 16777216 % 256] = _
      rw [m0, m1, m2, m3]
    rw [eq]
    show (dd c 0 0 0).1 = 5 ∧ (dd c 0 0 0).2.toNat = 0
    unfold dd d0 d1 d2
    rw [if_neg (by omega), if_neg (by omega), if_neg (by omega), if_pos (by omega)]
    exact ⟨rfl, rfl⟩
theorem UtfUnmarked : targumlaw1_UtfUnmarked.Pure := by
  intro f s a hf hs ha
  have ha := u8_wf ha
  have hf := u8_wf hf
  refine ⟨5000, ?_⟩
  unfold targumlaw1_UtfUnmarked.f
  rw [known1 _ (by omega), Option.bind_some, if_pos rfl]
  obtain ⟨e, hee⟩ : ∃ e, wrap64 (1 + wrap64 (Int.tmod a 5)) = e := ⟨_, rfl⟩
  have he : 1 ≤ e ∧ e ≤ 5 := by
    rw [← hee, Int.tmod_eq_emod_of_nonneg (by omega), wrap_id (x := a % 5) (by omega) (by omega), wrap_id (by omega) (by omega)]; omega
  rw [hee]
  obtain ⟨c, hcc⟩ : ∃ c, (32 + Int.tmod f 95) % 256 = c := ⟨_, rfl⟩
  have h0 : 32 ≤ c ∧ c ≤ 126 := by
    rw [← hcc, Int.tmod_eq_emod_of_nonneg (by omega)]; omega
  have hsc : isScalar c = true := decide_eq_true (by omega)
  rw [hcc, Few_eq 5000 s 300 (by omega) (by omega) hs, Option.bind_some, Option.bind_some]
  by_cases hf : (s.size : Int) ≤ 300 ∧ chk s.data.toList = -1
  · obtain ⟨h1, h2⟩ := hf
    have hw := chk_well _ _ (Nat.le_refl _) h2
    have hc1 : (strOfNums [c]).data.toList = to8 (Lib.encodeRuneZ c) := by rw [to8_data, Lib.encodeRuneZ_one (by omega) (by omega)]
    obtain ⟨hw2, henc⟩ := encS_cons e he c hsc (strOfNums [c]) s hc1 hw
    have hz3 : (strOfNums [c]).size = 1 := rfl
    have hul := encU_len e c
    have hlen : ∀ (d : Nat) (l : List UInt8), (encL e d l).length ≤ 4 * d := by
      intro d
      induction d with
      | zero => intro l; exact Nat.le_refl 0
      | succ d ih =>
        intro l
        simp only [encL]
        split
        · exact Nat.zero_le _
        · rw [List.length_append]; have := ih (l.drop (nx l).2); have := encU_len e ((nx l).1 : Int); omega
    have hll := hlen s.size s.data.toList
    have hB : isB (encU e c ++ encL e s.size s.data.toList) := (encU_isB _ _).append (encL_isB _ _ _)
    rw [decide_eq_true ⟨h1, h2⟩, if_pos rfl, if_pos (by omega), Encode_eq 5000 e _ (by rw [ByteArray.size_append, hz3]; omega) (by rw [ByteArray.size_append, hz3]; omega), Option.bind_some, henc,
      Decode_eq _ hB (by rw [List.length_append]; omega) 5000 (by rw [List.length_append]; omega), Option.bind_some]
    obtain ⟨q1, q2⟩ := unmarked_det e he c h0 s.size s.data.toList h2
    have henc2 : encL e (strOfNums [c] ++ s).size (strOfNums [c] ++ s).data.toList = encU e c ++ encL e s.size s.data.toList := by
      rw [← henc]; unfold encS; rw [if_pos ⟨he.1, he.2, hw2⟩]
    have hdec := dec_enc e ((0 : Nat) : Int) he (strOfNums [c] ++ s).size (strOfNums [c] ++ s).data.toList [] (encU e c ++ encL e s.size s.data.toList).length [] (by rw [Lib.size_eq]; exact Nat.le_refl _) hw2 (by rw [henc2]; exact Nat.le_refl _)
    rw [henc2, List.nil_append, List.nil_append, str_nums, List.length_nil] at hdec
    rw [q1, q2, hdec]
    dsimp only
    rw [if_pos rfl]
    simp
  · rw [decide_eq_false hf]; rfl
end Go.Proofs.YtmpdggphhhljhaaDoor.Pure
