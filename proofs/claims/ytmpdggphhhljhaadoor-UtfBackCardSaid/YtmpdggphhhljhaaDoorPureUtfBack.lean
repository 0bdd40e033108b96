/- UtfBack in plain words. -/
import Derived.Test.YtmpdggphhhljhaaDoorUtfLaw
import Derived.Test.YtmpdggphhhljhaaDoorPWx7
namespace Go.Proofs.YtmpdggphhhljhaaDoor.Pure
set_option linter.unusedSimpArgs false
set_option linter.unusedVariables false
open Go.RowKit Go.Proofs.YtmpdggphhhljhaaDoor.PW Go.Proofs.YtmpdggphhhljhaaDoorW.PrintWords Go.Proofs.YtmpdggphhhljhaaDoor.Aid Go.Proofs.YtmpdggphhhljhaaDoor.BrkFns Go.Proofs.YtmpdggphhhljhaaDoor.UtfSpec
theorem back_det (e : Int) (he : 1 ≤ e ∧ e ≤ 5) (d : Nat) (l : List UInt8) (hc : chk l = -1) : detE (encU e 65279 ++ encL e d l) = e ∧ detM (encU e 65279 ++ encL e d l) = (encU e 65279).length := by
  have hf := fun h => first_ne e d l hc h
  obtain ⟨r, hr⟩ : ∃ r, encL e d l = r := ⟨_, rfl⟩
  rw [hr] at hf ⊢
  have : e = 1 ∨ e = 2 ∨ e = 3 ∨ e = 4 ∨ e = 5 := by omega
  rcases this with rfl | rfl | rfl | rfl | rfl
  · have eq : encU 1 65279 = [239, 187, 191] := by decide
    rw [eq]; exact ⟨rfl, rfl⟩
  · have eq : encU 2 65279 = [254, 255] := by decide
    rw [eq]
    unfold detE detM
    show (dd 254 255 (atI r 0) (atI r 1)).1 = 2 ∧ (dd 254 255 (atI r 0) (atI r 1)).2.toNat = 2
    unfold dd d0 d1 d2 d3
    rw [if_neg (by omega), if_neg (by omega), if_neg (by omega), if_neg (by omega), if_pos (by omega)]
    exact ⟨rfl, rfl⟩
  · have eq : encU 3 65279 = [255, 254] := by decide
    rw [eq]
    have hf := hf (by omega)
    unfold detE detM
    show (dd 255 254 (atI r 0) (atI r 1)).1 = 3 ∧ (dd 255 254 (atI r 0) (atI r 1)).2.toNat = 2
    unfold dd d0 d1 d2 d3 d4 d5
    rw [if_neg (by omega), if_neg (by omega), if_neg (by omega), if_neg (by omega), if_neg (by omega), if_neg (by omega), if_pos (by omega)]
    exact ⟨rfl, rfl⟩
  · have eq : encU 4 65279 = [0, 0, 254, 255] := by decide
    rw [eq]; exact ⟨rfl, rfl⟩
  · have eq : encU 5 65279 = [255, 254, 0, 0] := by decide
    rw [eq]; exact ⟨rfl, rfl⟩
theorem UtfBack : targumlaw1_UtfBack.Pure := by
  intro s a hs ha
  have ha := u8_wf ha
  refine ⟨5000, ?_⟩
  unfold targumlaw1_UtfBack.f
  rw [known1 _ (by omega), Option.bind_some, if_pos rfl]
  obtain ⟨e, hee⟩ : ∃ e, wrap64 (1 + wrap64 (Int.tmod a 5)) = e := ⟨_, rfl⟩
  have he : 1 ≤ e ∧ e ≤ 5 := by
    rw [← hee, Int.tmod_eq_emod_of_nonneg (by omega), wrap_id (x := a % 5) (by omega) (by omega), wrap_id (by omega) (by omega)]; omega
  rw [hee]
  · rw [Few_eq 5000 s 300 (by omega) (by omega) hs, Option.bind_some]
    by_cases hf : (s.size : Int) ≤ 300 ∧ chk s.data.toList = -1
    · obtain ⟨h1, h2⟩ := hf
      have hw := chk_well _ _ (Nat.le_refl _) h2
      have hbom : (⟨#[239, 187, 191]⟩ : ByteArray).data.toList = to8 (Lib.encodeRuneZ 65279) := by decide
      obtain ⟨hw2, henc⟩ := encS_cons e he 65279 (by decide) ⟨#[239, 187, 191]⟩ s hbom hw
      obtain ⟨hw3, henc3⟩ := encS_cons e he 65279 (by decide) ⟨#[239, 187, 191]⟩ ⟨#[]⟩ hbom rfl
      have hz3 : (⟨#[239, 187, 191]⟩ : ByteArray).size = 3 := rfl
      have hempty : (⟨#[239, 187, 191]⟩ : ByteArray) ++ ⟨#[]⟩ = ⟨#[239, 187, 191]⟩ := by decide
      have hnil : encL e (⟨#[]⟩ : ByteArray).size (⟨#[]⟩ : ByteArray).data.toList = [] := rfl
      rw [hempty, hnil, List.append_nil] at henc3
      have hul := encU_len e 65279
      have hlen : ∀ (d : Nat) (l : List UInt8), (encL e d l).length ≤ 4 * d := by
        intro d
        induction d with
        | zero => intro l; exact Nat.le_refl 0
        | succ d ih =>
          intro l
          simp only [encL]
          split
          · exact Nat.zero_le _
          · rw [List.length_append]; have := ih (l.drop (nx l).2); have := encU_len e ((nx l).1 : Int); omega
      have hll := hlen s.size s.data.toList
      have hB : isB (encU e 65279 ++ encL e s.size s.data.toList) := (encU_isB _ _).append (encL_isB _ _ _)
      rw [decide_eq_true ⟨h1, h2⟩, if_pos rfl, if_pos (by omega), Encode_eq 5000 e _ (by rw [ByteArray.size_append, hz3]; omega) (by rw [ByteArray.size_append, hz3]; omega), Option.bind_some, henc,
        Decode_eq _ hB (by rw [List.length_append]; omega) 5000 (by rw [List.length_append]; omega), Option.bind_some]
      obtain ⟨q1, q2⟩ := back_det e he s.size s.data.toList h2
      rw [q1, q2, dec_enc e _ he s.size s.data.toList (encU e 65279) _ [] (by rw [Lib.size_eq]; exact Nat.le_refl _) hw (by rw [List.length_append]; omega), Size_eq 5000 e _ (by rw [hz3]; omega) (by rw [hz3]; omega) he, henc3]
      dsimp only
      rw [if_pos rfl, Option.bind_some, List.nil_append, str_nums]
      simp
    · rw [decide_eq_false hf]; rfl
end Go.Proofs.YtmpdggphhhljhaaDoor.Pure
