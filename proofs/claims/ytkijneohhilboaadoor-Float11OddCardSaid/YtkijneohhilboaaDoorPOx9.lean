/- Written by this session's own program (xprint, made over the kit's print): Lean functions with the same answers as the Go functions, and the proofs of that. Not trusted: Lean checks it. -/
import Derived.Test.YtkijneohhilboaaDoorPOx0
import Derived.Test.YtkijneohhilboaaDoorPOx7
import Derived.Test.YtkijneohhilboaaDoorXW
import Derived.Test.YtkijneohhilboaaDoorXZ
namespace Go.Proofs.YtkijneohhilboaaDoor.PO
open Go.Proofs.YtkijneohhilboaaDoor.XZ
open Go.Proofs.YtkijneohhilboaaDoor.XW Go.RowKit Go.Proofs.YtkijneohhilboaaDoorW.PrintWords Go.Proofs.YtkijneohhilboaaDoorW.PrintLast Go.Proofs.YtkijneohhilboaaDoorW.PrintMore
attribute [local go_sem] max2_int min2_int max_two min_two max_three min_three max_four min_four   -- for this text's walks alone
set_option linter.unusedVariables false
set_option linter.unusedSimpArgs false

/-! ### float11_Is: function 21 -/
def float11_Is.f (k : Nat) (a0 : ByteArray) : Option (Bool) := (float11_Form.f k a0).bind fun t222 => (some (decide (t222 > 0)))
theorem float11_Is.mono : ∀ a0 k, LeO (float11_Is.f k a0) (float11_Is.f (k + 1) a0) := by
 intro a0 k
 unfold float11_Is.f
 repeat' first | (with_reducible exact float11_Form.mono _ _) | (with_reducible exact LeO.refl _) | (with_reducible exact LeO.none _) | (with_reducible refine LeO.ite ?_ ?_) | (with_reducible refine LeO.bind ?_ (fun _ => ?_)) | exact float11_Form.mono _ _ | exact LeO.none _ | refine LeO.ite ?_ ?_ | refine LeO.bind ?_ (fun _ => ?_)
set_option maxHeartbeats 8000000 in
set_option maxRecDepth 100000 in
theorem float11_Is.calls (k : Nat) (a0 : ByteArray) (r : Bool) (w : World) (h : float11_Is.f k a0 = some r) :
  Calls Tryd.prog 21 #[.string a0] w fun e w' => e = .returned (.bool r) ∧ Below w.heap.size w w' := by
 have HB := AM (Below.refl w.heap.size w)
 have H : ((float11_Form.f k a0).bind fun t222 => (some (decide (t222 > 0)))) = some r := h
 clear h
 replace H := Option.bind_eq_some_iff.mp H
 obtain ⟨t222, A20, H⟩ := H
 replace H : (some (decide (t222 > 0))) = some r := H
 have A2 := AM A20
 clear A20
 obtain rfl := Option.some.inj H
 go_enter Tryd.func21, Tryd.ntmps21
 go_wp2_with (first | ((with_reducible refine gate_callee (f := 20) rfl ?_); refine goesL_ (some 4) rfl rfl Tryd.func20 (by kernel_rfl) rfl #[.string a0] rfl am ?_; (with_reducible refine (float11_Form.calls k a0 t222 _ A2.out).mono ?_); rintro e w3 ⟨rfl, hb⟩; refine ⟨_, rfl, ?_⟩; replace HB := AM (below_step bl hb); (try clear hb)))
 go_ret
 exact ⟨ew, bl⟩

end Go.Proofs.YtkijneohhilboaaDoor.PO
