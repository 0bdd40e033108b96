/- Decimals of digits with noughts at either end. No conditions. -/
import Derived.Test.YtddaggnomcoejaaDoorDecLaw
namespace Go.Proofs.YtddaggnomcoejaaDoor.DecSpec
set_option linter.unusedSimpArgs false
set_option linter.unusedVariables false
open Go.RowKit Go.Lib Go.Proofs.YtddaggnomcoejaaDoor.Room Go.Proofs.YtddaggnomcoejaaDoor.PD Go.Proofs.YtddaggnomcoejaaDoorW.PrintWords Go.Proofs.YtddaggnomcoejaaDoor.Aid Go.Proofs.YtddaggnomcoejaaDoor.Num Go.Proofs.YtddaggnomcoejaaDoor.BigFns Go.Proofs.YtddaggnomcoejaaDoor.BigQ Go.Proofs.YtddaggnomcoejaaDoor.RefBig
theorem zs_add (a b : Nat) : zs a ++ zs b = zs (a + b) := by unfold zs; exact List.replicate_append_replicate
theorem makeN_noughts (neg : Bool) (n : Nat) (x : Int) : makeN neg (zs n) x = (0, neg, txt [48], txt [48], true) := by
  unfold makeN
  rw [trims_noughts, if_pos (show trimLeftS [] [48] = [] from rfl)]
theorem makeN_core (neg : Bool) (a b : Nat) {c : List UInt8} (h1 : HeadNo c) (h2 : LastNo c) (h3 : c ≠ []) (x : Int) : makeN neg (zs a ++ c ++ zs b) x = (0, neg, txt c, num (x + b), true) := by
  obtain ⟨e1, e2⟩ := trims_core (a := a) (b := b) h1 h2 h3
  unfold makeN
  rw [e1, e2, if_neg h3]
  have e3 : (zs a ++ c ++ zs b).length = (zs a ++ c).length + b := by rw [List.length_append, zs_length]
  have : ((zs a ++ c ++ zs b).length : Int) - ((zs a ++ c).length : Int) = (b : Int) := by omega
  rw [this]
theorem makeN_pad (neg : Bool) (a b : Nat) (l : List UInt8) (x : Int) : makeN neg (zs a ++ l ++ zs b) x = makeN neg l (x + b) := by
  rcases split3 l with ⟨n, rfl⟩ | ⟨a', c, b', rfl, h1, h2, h3⟩
  · rw [zs_add, zs_add, makeN_noughts, makeN_noughts]
  · have e : zs a ++ (zs a' ++ c ++ zs b') ++ zs b = zs (a + a') ++ c ++ zs (b' + b) := by
      rw [← zs_add, ← zs_add]; simp only [List.append_assoc]
    have e' : x + ((b' + b : Nat) : Int) = x + (b : Int) + (b' : Int) := by omega
    rw [e, makeN_core neg _ _ h1 h2 h3, makeN_core neg _ _ h1 h2 h3, e']
theorem makeN_good (neg : Bool) (l : List UInt8) (hd : Digs l) (x : Int) : (makeN neg l x).1 = 0 ∧ (makeN neg l x).2.1 = neg ∧ (makeN neg l x).2.2.2.2 = true ∧ goodD (makeN neg l x).1 (makeN neg l x).2.1 (makeN neg l x).2.2.1.data.toList (makeN neg l x).2.2.2.1.data.toList := by
  rcases split3 l with ⟨n, rfl⟩ | ⟨a, c, b, rfl, h1, h2, h3⟩
  · rw [makeN_noughts]
    exact ⟨rfl, rfl, rfl, .inl ⟨rfl, rfl, rfl⟩⟩
  · rw [makeN_core neg a b h1 h2 h3]
    refine ⟨rfl, rfl, rfl, .inr (.inl ⟨rfl, ⟨fun y hy => hd y ?_, h3, h1, h2⟩, num_isNum _⟩)⟩
    have hy' : y ∈ c := hy
    simp [hy']
theorem nil_txt : (⟨#[]⟩ : ByteArray) = txt [] := rfl
end Go.Proofs.YtddaggnomcoejaaDoor.DecSpec
